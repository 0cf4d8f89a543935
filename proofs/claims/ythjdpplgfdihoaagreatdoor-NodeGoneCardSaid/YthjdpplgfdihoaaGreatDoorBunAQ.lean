/- Texts ManC, PlainManG, ManH, BloomA, BloomB, ManD, ManI in one. No conditions. -/
import Derived.Test.YthjdpplgfdihoaaGreatDoorBunAN
import Derived.Test.YthjdpplgfdihoaaGreatDoorBunAM

set_option linter.unusedSimpArgs false
set_option linter.unusedVariables false
set_option maxRecDepth 100000
set_option maxHeartbeats 16000000
namespace Go.Proofs.YthjdpplgfdihoaaGreatDoor
section
open Go Go.RowKit Go.Shelf
structure Acc (F:List Nat) (X:Dw) (w:World) (S:Sd) (w':World) (X':Dw):Prop where
 e:X'.d=X.d
 dm:Dm w' X' S
 c:Chg (F++X.foot) w w'
 f:∀g∈X'.foot,g∈X.foot∨w.heap.size≤g
variable {F:List Nat} {X X1:Dw} {w w1 w2:World} {S S1:Sd}
theorem Acc.start (h:Dm w X S):Acc F X w S w X:=⟨rfl,h,Chg.refl _ _,fun _ hg=>.inl hg⟩
theorem Acc.below (h:Acc F X w S w1 X1) (hb:Below w1.heap.size w1 w2):Acc F X w S w2 X1:=⟨h.e,h.dm.below hb,h.c.trans (Chg.of_below hb []) (fun g hg=>by cases hg),h.f⟩
theorem Acc.step (h:Acc F X w S w1 X1) (hu:UpdM X1 w1 w2 S1):∃X2,Acc F X w S1 w2 X2:=by
 obtain⟨X2,e,hd,hc,hf⟩:=hu;refine⟨X2,e.trans h.e,hd,h.c.trans hc (fun g hg=>?_),fun g hg=>?_⟩
 ·rcases h.f g hg with h1|h1
  ·exact .inl (k_ _ h1)
  ·exact .inr h1
 ·rcases hf g hg with h1|h1
  ·exact h.f g h1
  ·exact .inr (h_ h.c.size h1)
theorem Acc.other (h:Acc F X w S w1 X1) {G:List Nat} (c:Chg G w1 w2) (hG:∀g∈G,g∈F∧g < w.heap.size∧g∉X.foot∧NG≤g):Acc F X w S w2 X1:=by
 refine⟨h.e,h.dm.chg c (fun g hg=>⟨fun hm=>?_,(hG g hg).2.2.2⟩),h.c.trans c (fun g hg=>.inl (s_ _ (hG g hg).1)),h.f⟩;obtain⟨_,h2,h3,_⟩:=hG g hg
 rcases h.f g hm with h4|h4
 ·exact h3 h4
 ·omega
theorem Acc.updM (h:Acc [] X w S w1 X1):UpdM X w w1 S:=⟨X1,h.e,h.dm,by simpa using h.c,h.f⟩
theorem Acc.read (h:Acc F X w S w1 X1) (s:ByteArray) (hs:s.size≤maxLen):
  Calls Tryz.prog 25 #[.pointer (some ⟨X.d,0,none⟩),.string s] w1 fun e w'=>∃A c,e=.returned (.tuple #[.slice A (S.read s.data.toList).1.length c,.int .i64 ((S.read s.data.toList).2:Int)])∧
   w'.ownsRow w1.heap.size 5 1 (.slice A (S.read s.data.toList).1.length c) (S.read s.data.toList).1.length (bts (S.read s.data.toList).1)∧Below w1.heap.size w1 w':=by
 rw[←h.e];exact oq4 X1 S s hs h.dm.wf w1 h.dm.dk
theorem Acc.append (h:Acc F X w S w1 X1) (s:ByteArray) (hs:s.size≤maxLen) (A:Option Addr) (m c:Nat) (b:List UInt8) (hm:m≤1099511627776) (hr:Row w1.heap.size w1 A m 1 (bts b)) (hA:∀a,A=some a→a.block∉X1.foot):
  Calls Tryz.prog 28 #[.pointer (some ⟨X.d,0,none⟩),.string s,.slice A m c] w1 fun e w'=>e=.returned (.int .i64 ((S.append s.data.toList b).2:Int))∧∃X2,Acc F X w (S.append s.data.toList b).1 w' X2:=by
 rw[←h.e];exact(sy1 X1 S s hs A m c b hm h.dm.wf w1 h.dm.dk hr (fun a ha e=>hA a ha (by rw[e];exact aj.2 (.inl rfl)))).mono fun e w' ⟨h1,h2⟩=>⟨h1,h.step (h.dm.upd (h.dm.wf.append _ _) h2)⟩
theorem Acc.create (h:Acc F X w S w1 X1) (s:ByteArray) (hs:s.size≤maxLen) (hl:S.load≤1099511627776):
  Calls Tryz.prog 27 #[.pointer (some ⟨X.d,0,none⟩),.string s] w1 fun e w'=>e=.returned (.int .i64 ((S.create s.data.toList).2:Int))∧∃X2,Acc F X w (S.create s.data.toList).1 w' X2:=by
 rw[←h.e];exact(dw2 X1 S s hs h.dm.wf hl w1 h.dm.dk).mono fun e w' ⟨h1,h2⟩=>⟨h1,h.step (h.dm.upd (h.dm.wf.create _) h2)⟩
theorem Acc.sync (h:Acc F X w S w1 X1) (s:ByteArray) (hs:s.size≤maxLen):
  Calls Tryz.prog 29 #[.pointer (some ⟨X.d,0,none⟩),.string s] w1 fun e w'=>e=.returned (.int .i64 ((S.sync s.data.toList).2:Int))∧∃X2,Acc F X w (S.sync s.data.toList).1 w' X2:=by
 rw[←h.e];exact(sync_any X1 S s hs h.dm.wf w1 h.dm.dk).mono fun e w' ⟨h1,h2⟩=>⟨h1,h.step (h.dm.upd (h.dm.wf.sync _) h2)⟩
theorem Acc.remove (h:Acc F X w S w1 X1) (s:ByteArray) (hs:s.size≤maxLen) (hl:S.load≤1099511627776):
  Calls Tryz.prog 26 #[.pointer (some ⟨X.d,0,none⟩),.string s] w1 fun e w'=>e=.returned (.int .i64 ((S.remove s.data.toList).2:Int))∧∃X2,Acc F X w (S.remove s.data.toList).1 w' X2:=by
 rw[←h.e];exact(gx2 X1 S s hs h.dm.wf hl w1 h.dm.dk).mono fun e w' ⟨h1,h2⟩=>⟨h1,h.step (h.dm.upd (h.dm.wf.remove _) h2)⟩
theorem Acc.ay (h:Acc F X w S w1 X1):
  Calls Tryz.prog 30 #[.pointer (some ⟨X.d,0,none⟩)] w1 fun e w'=>e=.returned (.int .i64 ((S.ay).2:Int))∧∃X2,Acc F X w (S.ay).1 w' X2:=by
 rw[←h.e];exact(ax2 X1 S h.dm.wf w1 h.dm.dk).mono fun e w' ⟨h1,h2⟩=>⟨h1,h.step (h.dm.upd h.dm.wf.ay h2)⟩
theorem Acc.list (h:Acc F X w S w1 X1):
  Calls Tryz.prog 24 #[.pointer (some ⟨X.d,0,none⟩)] w1 fun e w'=>∃A c,e=.returned (.slice A S.list.length c)∧w'.ownsRow w1.heap.size 9 1 (.slice A S.list.length c) S.list.length (S.list.map Go.Proofs.encStr)∧Below w1.heap.size w1 w':=by
 rw[←h.e];exact xz2 X1 S h.dm.wf w1 h.dm.dk
end
section
open Go
structure Gs where
 name:List UInt8
 v:Vw
 count:Nat
 broken:Bool
namespace Gw
open Mn
open Mw (kCur jk headB sweep)
def fin (d:Sd) (M:Gs) (nm:List UInt8):Sd×Gs×Nat:=
 if (d.ay).2≠0 then ((d.ay).1,{ M with name:=nm,count:=1,broken:=true },(d.ay).2)
 else (sweep nm (d.ay).1.list (d.ay).1,{ M with name:=nm,count:=1 },0)
def ren (d:Sd) (M:Gs) (nm:List UInt8):Sd×Gs×Nat:=
 if (d.rename jk kCur).2≠0 then ((d.rename jk kCur).1,M,(d.rename jk kCur).2) else fin (d.rename jk kCur).1 M nm
def sd1 (d:Sd) (M:Gs) (nm:List UInt8):Sd×Gs×Nat:=
 if (d.ay).2≠0 then ((d.ay).1,M,(d.ay).2) else ren (d.ay).1 M nm
def hd (d:Sd) (M:Gs) (nm:List UInt8):Sd×Gs×Nat:=
 if (d.write jk (headB ((number nm kMan).getD 0))).2≠0 then ((d.write jk (headB ((number nm kMan).getD 0))).1,M,(d.write jk (headB ((number nm kMan).getD 0))).2)
 else sd1 (d.write jk (headB ((number nm kMan).getD 0))).1 M nm
def tmp (d:Sd) (M:Gs) (nm:List UInt8):Sd×Gs×Nat:=
 if (d.read jk).2=0 then
  if (d.remove jk).2≠0 then ((d.remove jk).1,M,(d.remove jk).2) else hd (d.remove jk).1 M nm
 else hd d M nm
def rewrite (d:Sd) (M:Gs) (nm:List UInt8):Sd×Gs×Nat:=
 if (d.write nm M.v.whole.rec_).2≠0 then ((d.write nm M.v.whole.rec_).1,M,(d.write nm M.v.whole.rec_).2)
 else tmp (d.write nm M.v.whole.rec_).1 M nm
def put (d:Sd) (M:Gs) (e:Ed) (v:Vw):Sd×Gs×Nat:=
 if (d.append M.name e.rec_).2≠0 then ((d.append M.name e.rec_).1,M,(d.append M.name e.rec_).2)
 else if ((d.append M.name e.rec_).1.sync M.name).2≠0 then (((d.append M.name e.rec_).1.sync M.name).1,{ M with count:=M.count+1,v:=v,broken:=true },((d.append M.name e.rec_).1.sync M.name).2)
 else (((d.append M.name e.rec_).1.sync M.name).1,{ M with count:=M.count+1,v:=v },0)
def save (d:Sd) (M:Gs) (e:Ed):Sd×Gs×Nat:=
 if M.broken=true then (d,M,14)
 else if e.may=false then (d,M,1)
 else match M.v.app e with
  |none=>(d,M,1)
  |some v=>put d M e v
def rewriteM (d:Sd) (M:Gs):Sd×Gs×Nat:=
 if M.broken=true then (d,M,14)
 else if 1073741824 < greatest d.list kMan+1 then (d,M,65)
 else rewrite d M (name kMan (greatest d.list kMan+1))
end Gw
theorem Vw.cx2 {v:Vw} (h:v.ok=true):v.whole.may=true:=by
 simp only[Vw.ok,isNum,K_,decide_eq_true_eq]at h;obtain⟨⟨⟨⟨⟨h1,h2⟩,h3⟩,h4⟩,h5⟩,_⟩:=h;have e1:decide (0≤v.log)=true:=by simp;omega
 have e2:decide (v.log≤1073741824)=true:=by simp;omega
 simp[Ed.may,Vw.whole,h3,h4,h5];exact⟨e1,e2⟩
theorem Ed.sq1 {e:Ed} (h:e.may=true):e.rec_.length≤2012:=by
 have:=Ed.aq1 e h;rw[Ed.rec_,Fr.uj];omega
end
section
open Go Go.RowKit Go.Shelf
structure Sl where
 a:Option Addr
 n:Nat
 c:Nat
def Gs.cells (M:Gs) (xd:Nat) (P:Sl):List Value:=[.pointer (some ⟨xd,0,none⟩),.string (str M.name),.int .i64 M.v.log,.slice P.a P.n P.c,.int .u64 (M.v.floor:Int),.int .u64 (M.v.cert:Int),.int .u64 (M.v.at_:Int),.int .u64 (M.v.lease:Int),.int .i64 (M.count:Int),.int .u32 (if M.broken=true then 1 else 0),.int .i32 0,.int .u32 0,.bool M.broken]
abbrev GK (w:World) (m xd:Nat) (M:Gs) (P:Sl):Prop:=BoxO w 224 m (M.cells xd P)
theorem nk3 (m xd:Nat) (M:Gs) (P:Sl) (w:World) (h:GK w m xd M P):Calls Tryz.prog 253 #[.pointer (some ⟨m,0,none⟩)] w fun e w'=>e=.returned (.tuple #[])∧GK w' m xd { M with broken:=true } P∧Chg [m] w w':=by
 have hmf:∀(fn:Fn) (first cap:Array Value) (w:World),(Instr.makeFunc fn first cap).run Tryz.prog w=.ok (.func fn first cap) w:=fun _ _ _ _=>rfl;have hlt:=h.lt;have h1:GK (w.alloc (.cells #[.pointer (some ⟨m,0,none⟩)] 135)) m xd M P:=BoxO.alloc h _;have hp:(w.alloc (.cells #[.pointer (some ⟨m,0,none⟩)] 135)).cell? ⟨w.heap.size,0,none⟩=some (.pointer (some ⟨m,0,none⟩)):=by simp
 have hc1:Chg [m] w (w.alloc (.cells #[.pointer (some ⟨m,0,none⟩)] 135)):=(Chg.refl [m] w).alloc _;generalize hV:w.alloc (.cells #[.pointer (some ⟨m,0,none⟩)] 135)=V at *;have c9:=h1.cell 9;have c10:=h1.cell 10;have c12:=h1.cell 12;simp only[Gs.cells,gE0,gE1]at c9 c10 c12
 cases hb:M.broken with
 |false=>
  rw[hb]at c9 c12;simp only[ao_,if_false]at c9;have hdo:=Once.do_first m ⟨w.heap.size,0,none⟩ (by simp;omega) _ V hp c9 c10 c12 (h1.free 9) (h1.free 10) (h1.free 12);have hbx:=((((h1.store 10 (.int .i32 1)).store 12 (.bool true)).drew.store 9 (.int .u32 1)).store 10 (.int .i32 0));have hcc:Chg [m] V ((((V.setCell ⟨m,10,none⟩ (.int .i32 1)).setCell ⟨m,12,none⟩ (.bool true)).drew.setCell ⟨m,9,none⟩ (.int .u32 1)).setCell ⟨m,10,none⟩ (.int .i32 0)):=(((((Chg.refl [m] V).setCell _ (.inl (by simp))).setCell _ (.inl (by simp))).drew).setCell _ (.inl (by simp))).setCell _ (.inl (by simp));have hres:GK ((((V.setCell ⟨m,10,none⟩ (.int .i32 1)).setCell ⟨m,12,none⟩ (.bool true)).drew.setCell ⟨m,9,none⟩ (.int .u32 1)).setCell ⟨m,10,none⟩ (.int .i32 0)) m xd { M with broken:=true } P:=hbx;have HR:=H_ (d_ hres (hc1.trans hcc (fun g hg=>.inl hg)));clear hres hcc hbx hb;go_enter Tryz.func253,Tryz.ntmps253;go_wp2_with fail;refine hdo.mono ?_;rintro e w2 ⟨rfl,rfl⟩;go_wp2;exact bodyPost_end (v:=.tuple #[]) (by simp[results,go_sem]) rfl ⟨rfl,HR.out⟩
 |true=>
  rw[hb]at c9;simp only[if_true]at c9;have hdo:=Once.do_done ⟨m,9,none⟩ 1 (by omega) (.func (.func 308) #[] #[.pointer (some ⟨w.heap.size,0,none⟩)]) V c9;have hres:GK V m xd { M with broken:=true } P:=by
   have e:({ M with broken:=true }:Gs)=M:=by cases M;simp at hb;simp[hb]
   rw[e];exact h1
  have HR:=H_ (d_ hres hc1);clear hres hb;go_enter Tryz.func253,Tryz.ntmps253;go_wp2_with fail;refine hdo.mono ?_;rintro e w2 ⟨rfl,hw2⟩;obtain rfl:=hw2.symm;go_wp2;exact bodyPost_end (v:=.tuple #[]) (by simp[results,go_sem]) rfl ⟨rfl,HR.out⟩
structure Vrow (w:World) (X:Dw) (m:Nat) (P:Sl) (fs:List (Int×Int)):Prop where
 row:Row w.heap.size w P.a P.n 2 (ax fs)
 nc:P.n≤P.c
 cm:P.c≤maxLen
 nb:P.n≤10000
 away:∀j,j < (ax fs).length→∀a,P.a=some a→a.block≠m∧a.block∉X.foot
section
variable {w w':World} {X X':Dw} {m:Nat} {P:Sl} {fs:List (Int×Int)}
theorem oq {B n size:Nat} {A:Option Addr} {xs:List Value} {F:List Nat} (h:Chg F w w') (r:Row B w A n size xs) (hB:B≤w.heap.size) (hF:∀j,j < xs.length→∀a,A=some a→a.block∉F):Row B w' A n size xs:=
 ⟨r.len,fun j hj=>let ⟨a,e,b,c⟩:=r.cell j hj;⟨a,e,b,(h.cell (p:=a.add j) (by rw[add_block];omega) (by rw[add_block];exact hF j hj a e)).trans c⟩⟩
theorem Vrow.below (h:Vrow w X m P fs) (hb:Below w.heap.size w w'):Vrow w' X m P fs:=⟨(h.row.below hb).up hb.size,h.nc,h.cm,h.nb,h.away⟩
theorem Vrow.turn (h:Vrow w X m P fs) (c:Chg [m] w w'):Vrow w' X m P fs:=⟨(oq c h.row l_ (fun j hj a ha hm=>(h.away j hj a ha).1 (c_.1 hm))).up c.size,h.nc,h.cm,h.nb,h.away⟩
theorem Vrow.step (h:Vrow w X m P fs) (c:Chg X.foot w w') (hf:∀g∈X'.foot,g∈X.foot∨w.heap.size≤g):Vrow w' X' m P fs:=
 ⟨(oq c h.row l_ (fun j hj a ha=>(h.away j hj a ha).2)).up c.size,h.nc,h.cm,h.nb,fun j hj a ha=>⟨(h.away j hj a ha).1,fun hm=>by
  rcases hf _ hm with h1|h1
  ·exact(h.away j hj a ha).2 h1
  ·obtain⟨a',e,hb,_⟩:=h.row.cell j hj
   rw[ha]at e;injection e with e;subst e;omega⟩⟩
end
structure Gst (P:Sl) (m:Nat) (X:Dw) (w:World) (S:Sd) (M:Gs) (w':World) (X':Dw):Prop where
 acc:Acc [m] X w S w' X'
 man:GK w' m X.d M P
 row:Vrow w' X' m P M.v.files
 lt:m < w.heap.size
 out:m∉X.foot
 ng:NG≤m
variable {P P1:Sl} {m:Nat} {X X1:Dw} {w w1 w2:World} {S S1:Sd} {M M1:Gs}
theorem Gst.start (h:Dm w X S) (hm:GK w m X.d M P) (hr:Vrow w X m P M.v.files) (ho:m∉X.foot) (hn:NG≤m):Gst P m X w S M w X:=⟨Acc.start h,hm,hr,hm.lt,ho,hn⟩
theorem Gst.away (h:Gst P m X w S M w1 X1):m∉X1.foot:=fun hm=>by
 rcases h.acc.f m hm with h1|h1
 ·exact h.out h1
 ·have:=h.lt
  omega
theorem Gst.below (h:Gst P m X w S M w1 X1) (hb:Below w1.heap.size w1 w2):Gst P m X w S M w2 X1:=⟨h.acc.below hb,h.man.below hb,h.row.below hb,h.lt,h.out,h.ng⟩
theorem Gst.step (h:Gst P m X w S M w1 X1) (hu:UpdM X1 w1 w2 S1):∃X2,Gst P m X w S1 M w2 X2:=by
 obtain⟨X2,e,hd,hc,hf⟩:=hu;refine⟨X2,⟨e.trans h.acc.e,hd,h.acc.c.trans hc (fun g hg=>?_),fun g hg=>?_⟩,h.man.chg hc h.away,h.row.step hc hf,h.lt,h.out,h.ng⟩
 ·rcases h.acc.f g hg with h1|h1
  ·exact .inl (k_ _ h1)
  ·exact .inr h1
 ·rcases hf g hg with h1|h1
  ·exact h.acc.f g h1
  ·exact .inr (h_ h.acc.c.size h1)
theorem Gst.turn (h:Gst P m X w S M w1 X1) (c:Chg [m] w1 w2) (hm:GK w2 m X.d M1 P) (hv:M1.v=M.v):Gst P m X w S M1 w2 X1:=
 ⟨h.acc.other c (fun g hg=>by rw[c_.1 hg];exact⟨by simp,h.lt,h.out,h.ng⟩),hm,by rw[hv];exact h.row.turn c,h.lt,h.out,h.ng⟩
theorem Gst.read (h:Gst P m X w S M w1 X1) (s:ByteArray) (hs:s.size≤maxLen):
  Calls Tryz.prog 25 #[.pointer (some ⟨X.d,0,none⟩),.string s] w1 fun e w'=>∃A c,e=.returned (.tuple #[.slice A (S.read s.data.toList).1.length c,.int .i64 ((S.read s.data.toList).2:Int)])∧Below w1.heap.size w1 w':=
 (h.acc.read s hs).mono fun _ _ ⟨A,c,h1,_,h2⟩=>⟨A,c,h1,h2⟩
theorem Gst.write (h:Gst P m X w S M w1 X1) (s:ByteArray) (hs:s.size≤maxLen) (A:Option Addr) (k c:Nat) (b:List UInt8) (hk:k≤1099511627776) (hl:S.load≤1099511627776) (hr:Row w1.heap.size w1 A k 1 (bts b)) (hA:∀a,A=some a→a.block∉X1.foot):
  Calls Tryz.prog 249 #[.pointer (some ⟨X.d,0,none⟩),.string s,.slice A k c] w1 fun e w'=>e=.returned (.int .i64 ((S.write s.data.toList b).2:Int))∧∃X2,Gst P m X w (S.write s.data.toList b).1 M w' X2:=by
 rw[←h.acc.e];exact(write_any X1 S s hs A k c b hk hl w1 h.acc.dm hr hA).mono fun _ _ ⟨h1,h2⟩=>⟨h1,h.step h2⟩
theorem Gst.append (h:Gst P m X w S M w1 X1) (s:ByteArray) (hs:s.size≤maxLen) (A:Option Addr) (k c:Nat) (b:List UInt8) (hk:k≤1099511627776) (hr:Row w1.heap.size w1 A k 1 (bts b)) (hA:∀a,A=some a→a.block∉X1.foot):
  Calls Tryz.prog 28 #[.pointer (some ⟨X.d,0,none⟩),.string s,.slice A k c] w1 fun e w'=>e=.returned (.int .i64 ((S.append s.data.toList b).2:Int))∧∃X2,Gst P m X w (S.append s.data.toList b).1 M w' X2:=by
 rw[←h.acc.e];exact(sy1 X1 S s hs A k c b hk h.acc.dm.wf w1 h.acc.dm.dk hr (fun a ha e=>hA a ha (by rw[e];exact aj.2 (.inl rfl)))).mono fun _ _ ⟨h1,h2⟩=>⟨h1,h.step (h.acc.dm.upd (h.acc.dm.wf.append _ _) h2)⟩
theorem Gst.sync (h:Gst P m X w S M w1 X1) (s:ByteArray) (hs:s.size≤maxLen):
  Calls Tryz.prog 29 #[.pointer (some ⟨X.d,0,none⟩),.string s] w1 fun e w'=>e=.returned (.int .i64 ((S.sync s.data.toList).2:Int))∧∃X2,Gst P m X w (S.sync s.data.toList).1 M w' X2:=by
 rw[←h.acc.e];exact(sync_any X1 S s hs h.acc.dm.wf w1 h.acc.dm.dk).mono fun _ _ ⟨h1,h2⟩=>⟨h1,h.step (h.acc.dm.upd (h.acc.dm.wf.sync _) h2)⟩
theorem Gst.remove (h:Gst P m X w S M w1 X1) (s:ByteArray) (hs:s.size≤maxLen) (hl:S.load≤1099511627776):
  Calls Tryz.prog 26 #[.pointer (some ⟨X.d,0,none⟩),.string s] w1 fun e w'=>e=.returned (.int .i64 ((S.remove s.data.toList).2:Int))∧∃X2,Gst P m X w (S.remove s.data.toList).1 M w' X2:=by
 rw[←h.acc.e];exact(gx2 X1 S s hs h.acc.dm.wf hl w1 h.acc.dm.dk).mono fun _ _ ⟨h1,h2⟩=>⟨h1,h.step (h.acc.dm.upd (h.acc.dm.wf.remove _) h2)⟩
theorem Gst.rename (h:Gst P m X w S M w1 X1) (s u:ByteArray) (hs:s.size≤maxLen) (hu:u.size≤maxLen) (hl:S.load≤1099511627776):
  Calls Tryz.prog 252 #[.pointer (some ⟨X.d,0,none⟩),.string s,.string u] w1 fun e w'=>e=.returned (.int .i64 ((S.rename s.data.toList u.data.toList).2:Int))∧∃X2,Gst P m X w (S.rename s.data.toList u.data.toList).1 M w' X2:=by
 rw[←h.acc.e];exact(qq3 X1 S s u hs hu h.acc.dm.wf hl w1 h.acc.dm.dk).mono fun _ _ ⟨h1,h2⟩=>⟨h1,h.step (h.acc.dm.upd (h.acc.dm.wf.rename _ _) h2)⟩
theorem Gst.ay (h:Gst P m X w S M w1 X1):
  Calls Tryz.prog 30 #[.pointer (some ⟨X.d,0,none⟩)] w1 fun e w'=>e=.returned (.int .i64 ((S.ay).2:Int))∧∃X2,Gst P m X w (S.ay).1 M w' X2:=by
 rw[←h.acc.e];exact(ax2 X1 S h.acc.dm.wf w1 h.acc.dm.dk).mono fun _ _ ⟨h1,h2⟩=>⟨h1,h.step (h.acc.dm.upd h.acc.dm.wf.ay h2)⟩
theorem Gst.wz4 (h:Gst P m X w S M w1 X1):Calls Tryz.prog 253 #[.pointer (some ⟨m,0,none⟩)] w1 fun e w'=>e=.returned (.tuple #[])∧Gst P m X w S { M with broken:=true } w' X1:=
 (nk3 m X.d M P w1 h.man).mono fun _ _ ⟨h1,h2,h3⟩=>⟨h1,h.turn h3 h2 rfl⟩
theorem Gst.trans {X2:Dw} {S2:Sd} {M2:Gs} (h:Gst P m X w S M w1 X1) (k:Gst P1 m X1 w1 S2 M2 w2 X2):Gst P1 m X w S2 M2 w2 X2:=by
 refine⟨⟨k.acc.e.trans h.acc.e,k.acc.dm,h.acc.c.trans k.acc.c (fun g hg=>?_),fun g hg=>?_⟩,by rw[←h.acc.e];exact k.man,k.row,h.lt,h.out,h.ng⟩
 ·rcases q_.1 hg with h1|h1
  ·exact .inl (s_ _ h1)
  ·rcases h.acc.f g h1 with h2|h2
   ·exact .inl (k_ _ h2)
   ·exact .inr h2
 ·rcases k.acc.f g hg with h1|h1
  ·exact h.acc.f g h1
  ·exact .inr (h_ h.acc.c.size h1)
theorem Gst.anew (h:Gst P m X w S M w1 X1):Gst P m X1 w1 S M w1 X1:=Gst.start h.acc.dm (by rw[h.acc.e];exact h.man) h.row h.away h.ng
def ey1 (P:Sl) (m:Nat) (X:Dw) (w:World) (R:Sd×Gs×Nat) (e:Ending) (w':World):Prop:=e=.returned (.int .i64 (R.2.2:Int))∧∃P' X',Gst P' m X w R.1 R.2.1 w' X'∧(P'=P∨∀a,P'.a=some a→w.heap.size≤a.block)
theorem ey1.mk_ {S2:Sd} {M2:Gs} {er:Nat} {R:Sd×Gs×Nat} (hR:R=(S2,M2,er)) {X2:Dw} (h:Gst P m X w S2 M2 w1 X2):ey1 P m X w R (.returned (.int .i64 (er:Int))) w1:=by
 subst hR;exact⟨rfl,P,X2,h,.inl rfl⟩
theorem ey1.mkN {S2:Sd} {M2:Gs} {er:Nat} {R:Sd×Gs×Nat} {P0:Sl} (hR:R=(S2,M2,er)) {X2:Dw} (h:Gst P m X w S2 M2 w1 X2) (hn:∀a,P.a=some a→w.heap.size≤a.block):ey1 P0 m X w R (.returned (.int .i64 (er:Int))) w1:=by
 subst hR;exact⟨rfl,P,X2,h,.inr hn⟩
end
section
open Go Go.RowKit Go.Lib
structure BlAt (w:World) (f g:Nat) (b:List UInt8):Prop where
 box:BoxO w 375 f [.int .i64 7,.slice (some ⟨g,0,none⟩) b.length b.length]
 bits:BoxO w 5 g (bts b)
 ne:f≠g
theorem BlAt.below {w w':World} {f g:Nat} {b:List UInt8} (h:BlAt w f g b) (hb:Below w.heap.size w w'):BlAt w' f g b:=⟨h.box.below hb,h.bits.below hb,h.ne⟩
theorem vv3 (n:Nat) (w:World) (hn:n≤2000):
  Calls Tryz.prog 313 #[.int .i64 (n:Int),.int .i64 10] w fun e w'=>∃f g,e=.returned (.tuple #[.pointer (some ⟨f,0,none⟩),.int .i64 0])∧BlAt w' f g (List.replicate (Tb.cy2 n) 0)∧w.heap.size≤f∧w.heap.size≤g∧Below w.heap.size w w':=by
 obtain⟨i0,hi0,hz0,hz1,hz2⟩:=info_parts eq1;obtain⟨fs,hfs⟩:=n_ (Tb.cy2 n);have hfb:fs≤3000:=by rw[hfs];unfold Tb.cy2;omega
 obtain⟨cs,hcs,hmk⟩:=kk5 56 5 i0 (Value.int .u8 0) Tryz.underlying56 hi0 hz0 hz1 rfl fs (by rw[hz2];omega) (by omega);rw[←hfs];have n1:((n:Int) < 0)=False:=eq_false (by omega);have n2:(10000 < (n:Int))=False:=eq_false (by omega);have hw1:IntKind.i64.wrap ((n:Int)*10)=(n:Int)*10:=F_ _ (by omega);have hq:(max ((n:Int)*10) 64+8 - 1) / 8=(fs:Int):=by rw[hfs];unfold Tb.cy2;omega
 have h71:max (7:Int) 1=7:=by decide
 have HFS:=H_ hfs;clear hfs;go_enter Tryz.func313,Tryz.ntmps313;go_wp2;go_ret2;have hb0:BoxO (w.alloc (.cells cs 5)) 5 w.heap.size (bts (List.replicate fs 0)):=by
  have:=BoxO.new w cs 5;rw[hcs]at this;simpa [bts] using this
 have hsz:(w.alloc (.cells cs 5)).heap.size=w.heap.size+1:=by simp
 refine⟨w.heap.size+1,w.heap.size,rfl,⟨?_,hb0.alloc _,by omega⟩,by omega,x_ _,(b_ w _).alloc (by omega) _⟩;rw[←hsz,bQ_];exact BoxO.new _ _ _
theorem fj5 (hv k size x:Nat) (hx:x=(((hv % 4294967296+k *(hv / 4294967296)) % 4294967296)) % (size *8)):((hv:Int)+(k:Int)*((hv:Int) / 4294967296)) % 4294967296 % ((size:Int)*8)=(x:Int):=by
 have hq:((k *(hv / 4294967296):Nat):Int)=(k:Int)*((hv:Int) / 4294967296):=by rw[Int.natCast_mul,Int.natCast_ediv];rfl
 have e:(hv % 4294967296+k *(hv / 4294967296)) % 4294967296=(hv+k *(hv / 4294967296)) % 4294967296:=by
  generalize k *(hv / 4294967296)=q;omega
 rw[hx,e,←hq];generalize k *(hv / 4294967296)=q;have h3:((hv:Int)+(q:Int)) % 4294967296=(((hv+q) % 4294967296:Nat):Int):=by omega
 have h4:(size:Int)*8=((size *8:Nat):Int):=by omega
 rw[h3,h4];exact(Int.natCast_emod _ _).symm
theorem jx5 (hv k size x:Nat) (hb0:0 < size) (hbl:size≤3000) (hx:x=(((hv % 4294967296+k *(hv / 4294967296)) % 4294967296)) % (size *8)):x < 24000:=by
 have:=bm_ (((hv % 4294967296+k *(hv / 4294967296)) % 4294967296)) (show 0 < size *8 by omega);rw[←hx]at this;omega
theorem yv4 (x:Nat) (hxl:x < 24000):wrap64 (x:Int)=(x:Int):=by unfold wrap64;omega
theorem sv2 (f g:Nat) (b:List UInt8) (K:Option Addr) (m c:Nat) (key:List UInt8) (w:World) (h:BlAt w f g b) (hb0:0 < b.length) (hbl:b.length≤3000) (hm:m≤1000) (hr:Row w.heap.size w K m 1 (bts key)):
  Calls Tryz.prog 343 #[.pointer (some ⟨f,0,none⟩),.slice K m c] w fun e w'=>∃A' c',e=.returned (.slice A' 7 c')∧w'.ownsRow w.heap.size 3 1 (.slice A' 7 c') 7 (i64v (Tb.places b.length key))∧Below w.heap.size w w':=by
 obtain⟨i0,hi0,hz0,hz1,hz2⟩:=info_parts lk4;have hh:=lw3 K m c key w (by omega) hr;obtain⟨size,hsize⟩:=n_ b.length;obtain⟨hv,hhv⟩:=n_ ((Fnv.hash key).toNat);obtain⟨P,hP⟩:=n_ (Tb.places size key);have hvl:hv < 18446744073709551616:=by rw[hhv];exact(Fnv.hash key).isLt
 have hPl:P.length=7:=by rw[hP];simp[Tb.places]
 have hPk:∀k,k < 7→P[k]?=some ((((hv % 4294967296+k *(hv / 4294967296)) % 4294967296)) % (size *8)):=fun k hk=>by
  rw[hP,hhv];simp[Tb.places,hk]
 rw[←hsize,←hP];rw[←hhv]at hh;have c0:=h.box.cell 0;have c1:=h.box.cell 1;simp only[gE0,gE1,←hsize]at c0 c1;rw[←hsize]at hb0 hbl;have HH:=H_ hh;have HPK:=H_ hPk;have HPL:=H_ hPl;clear hh hPk hP hhv hsize h hPl hr;go_enter Tryz.func343,Tryz.ntmps343;go_wp2_with fail;refine HH.out.mono ?_;rintro e w1 ⟨rfl,rfl⟩;clear HH;go_wp2_with fail
 go_loopw [9,29] (fun o i wr=>∃(k:Nat) (A2:Option Addr) (c2:Nat),k≤7∧o=.slice A2 k c2∧i=.int .i64 (k:Int)∧wr.ownsRow w.heap.size 3 1 (.slice A2 k c2) k (i64v (P.take k))∧Below w.heap.size w wr) (fun _ i _=>7 - (intOf i).toNat)
 case atStart=>exact⟨0,none,0,by omega,rfl,rfl,E_ _ _ _ _,Below.refl _ _⟩
 case round=>
  obtain⟨k,A2,c2,hk7,rfl,rfl,ho,hbl2⟩:=hrel;have HO:=H_ ho;clear ho
  by_cases hk:k < 7
  ·have hki:(k:Int) < 7:=by omega
   have hwk:IntKind.i64.wrap (k:Int)=(k:Int):=F_ _ (by omega);have hwu:IntKind.u32.wrap (k:Int)=(k:Int):=by simp only[IntKind.wrap_u32];omega
   obtain⟨x,hx⟩:∃x:Nat,x=(((hv % 4294967296+k *(hv / 4294967296)) % 4294967296)) % (size *8):=⟨_,rfl⟩;have hpk:=HPK.out k hk;rw[←hx]at hpk;have hxv:=fj5 hv k size x hx;have hxl:=jx5 hv k size x hb0 hbl hx;have hw64:=yv4 x hxl;have htk:i64v (P.take k)++[.int .i64 (x:Int)]=i64v (P.take (k+1)):=by
    rw[List.take_add_one,hpk,zv3];rfl
   have hrow:Row (wr.alloc (.cells #[.int .i64 (x:Int)] 3)).heap.size (wr.alloc (.cells #[.int .i64 (x:Int)] 3)) (some ⟨wr.heap.size,0,none⟩) 1 1 [.int .i64 (x:Int)]:=by
    have:=Row.new wr #[.int .i64 (x:Int)] 3 (n:=1) (size:=1) rfl;simpa using this
   have hbA:=hbl2.alloc hbl2.size (.cells #[.int .i64 (x:Int)] 3);have hoA:=HO.out.alloc (.cells #[.int .i64 (x:Int)] 3);have HR:=H_ hrow;have HB:=H_ hbA;have HOA:=H_ hoA;have HT:=H_ htk;clear hrow hbA hoA htk hpk hx HO;go_wp2_with (at_builtin;refine iy ?_);refine gz (jq rfl (.tmp 32) (.tmp 42) _ rfl w.heap.size 3 i0 _ 1 8 Tryz.underlying48 hi0 hz0 hz1 hz2 rfl (by omega) w HB.out HB.out.size _ k _ rfl HOA.out _ _ 1 1 [.int .i64 (x:Int)] rfl HR.out (by simp[Value.oneCell']) (k+1) _ rfl HT.out (by unfold maxLen;omega) (by omega) ?_);intro A3 c3 w5 z1 z2 z3 z4 z5;have HF:=H_ z1;clear z1 z3 HR HB HOA HT;go_wp2;go_roundw
   case rel=>exact⟨k+1,A3,c3,by omega,rfl,by go_num,HF.out,z2⟩
   case measure=>simp[intOf];omega
  ·have hki:((k:Int) < 7)=False:=eq_false (by omega)
   have hk7':k=7:=by omega
   subst hk7';have ho:=HO.out;rw[i_ (by rw[HPL.out];exact x_ _)]at ho;have HF:=H_ ho;clear ho HO;go_wp2;go_ret;exact⟨A2,c2,rfl,HF.out,hbl2⟩
end
section
open Go Go.RowKit Go.Lib
theorem or_bit (c:UInt8) {j:Nat} (hj:j < 8):bits .or .u8 (c.toNat:Int) ((2 ^ j:Nat):Int)=((c|||UInt8.ofNat (2 ^ j)).toNat:Int):=by
 have key:∀(y:Fin 256) (j:Fin 8),bits .or .u8 ((y.val:Nat):Int) ((2 ^ j.val:Nat):Int)=(((UInt8.ofNat y.val)|||UInt8.ofNat (2 ^ j.val)).toNat:Int):=by decide+kernel
 have:=key ⟨c.toNat,c.toNat_lt⟩ ⟨j,hj⟩;simpa using this
theorem cv3 (b:List UInt8) (i:Nat):(Tb.jx1 b i).length=b.length:=by simp[Tb.jx1]
theorem dj5 (c:UInt8) {j:Nat} (hj:j < 8):bits .or .u8 (c.toNat:Int) (IntKind.u8.wrap (2 ^ j))=((c|||UInt8.ofNat (2 ^ j)).toNat:Int):=by
 rw[←or_bit c hj]
 congr 1
 have e:j=0∨j=1∨j=2∨j=3∨j=4∨j=5∨j=6∨j=7:=by omega
 rcases e with rfl|rfl|rfl|rfl|rfl|rfl|rfl|rfl<;>decide
theorem BlAt.set {w:World} {f g:Nat} {B:List UInt8} {x q j:Nat} {bx:UInt8} (h:BlAt w f g B) (hq:q=x / 8) (hj:j=x % 8) (hB:B[q]?=some bx):
  BlAt (w.drew.setCell ⟨g,q,none⟩ (.int .u8 ((bx|||UInt8.ofNat (2 ^ j)).toNat:Int))) f g (Tb.jx1 B x)∧Chg [g] w (w.drew.setCell ⟨g,q,none⟩ (.int .u8 ((bx|||UInt8.ofNat (2 ^ j)).toNat:Int))):=by
 have hc:=uw w.drew ⟨g,q,none⟩ (.int .u8 ((bx|||UInt8.ofNat (2 ^ j)).toNat:Int));refine⟨⟨?_,?_,h.ne⟩,((Chg.refl [g] w).drew).trans hc (fun g hg=>.inl hg)⟩
 ·rw[cv3]
  exact h.box.drew.chg hc (by simpa using h.ne)
 ·have:=h.bits.drew.store q (.int .u8 ((bx|||UInt8.ofNat (2 ^ j)).toNat:Int))
  have e:(bts B).set q (.int .u8 ((bx|||UInt8.ofNat (2 ^ j)).toNat:Int))=bts (Tb.jx1 B x):=by
   unfold Tb.jx1 bts;rw[List.map_set,←hq,←hj,C_,hB];rfl
  rw[←e];exact this
theorem ov3 (b:List UInt8) (i:Nat):(Tb.jx1 b i).length=b.length:=by simp[Tb.jx1]
theorem xv1 (l:List Nat):∀b:List UInt8,(l.foldl Tb.jx1 b).length=b.length:=by
 induction l with
 |nil=>exact fun _=>rfl
 |cons a l ih=>exact fun b=>by rw[bj_,ih,ov3]
theorem tj3 (b key:List UInt8):(Tb.addKey b key).length=b.length:=xv1 _ _
theorem fz4 (f g:Nat) (b:List UInt8) (K:Option Addr) (m c:Nat) (key:List UInt8) (w:World) (h:BlAt w f g b) (hb0:0 < b.length) (hbl:b.length≤3000) (hm:m≤1000) (hr:Row w.heap.size w K m 1 (bts key)):
  Calls Tryz.prog 314 #[.pointer (some ⟨f,0,none⟩),.slice K m c] w fun e w'=>e=.returned (.tuple #[])∧BlAt w' f g (Tb.addKey b key)∧Chg [g] w w':=by
 have hp:=sv2 f g b K m c key w h hb0 hbl hm hr;obtain⟨P,hP⟩:=n_ (Tb.places b.length key);have hPl:P.length=7:=by rw[hP];simp[Tb.places]
 have hPb:∀x∈P,x < b.length *8:=fun x hx=>by
  rw[hP]at hx;simp only[Tb.places,bc_]at hx;obtain⟨i,_,rfl⟩:=hx;exact bm_ _ (by omega)
 unfold Tb.addKey;rw[←hP]at hp ⊢;have hgl:=h.bits.lt;have HP:=H_ hp;have H:=H_ h;have HPB:=H_ hPb;clear hp hP hr h hPb;go_enter Tryz.func314,Tryz.ntmps314;go_wp2_with fail;refine HP.out.mono ?_;rintro e w1 ⟨A1,c1,rfl,ho1,hb1⟩;obtain⟨A9,c9,hv,hqc,hqm,hlow⟩:=dw ho1;injection hv with e1 e2 e3;subst e1 e3;have hrow:Row w1.heap.size w1 A1 7 1 (i64v P):=Row.own ho1;have HR:=H_ hrow;have HL:=H_ hlow;have H1:=H_ (H.out.below hb1);have HB1:=H_ hb1;clear ho1 hrow hlow hb1 HP;go_wp2_with fail
 go_loopw [10] (fun i wr=>∃k:Nat,k≤7∧i=.int .i64 (k:Int)∧Hid (BlAt wr f g ((P.take k).foldl Tb.jx1 b)∧Chg [g] w1 wr)) (fun i _=>7 - (intOf i).toNat)
 case atStart=>exact⟨0,by omega,rfl,H_ ⟨H1.out,Chg.refl _ _⟩⟩
 case round=>
  obtain⟨k,hk7,rfl,HK⟩:=hrel
  by_cases hk:k < 7
  ·have hki:(k:Int) < 7:=by omega
   have hwk:IntKind.i64.wrap (k:Int)=(k:Int):=F_ _ (by omega);have hrk:=HK.out.2.row HR.out l_ (fun a ha hm=>by
    have:=(HL.out a ha).1;have h2:=c_.1 hm;omega)
   have hPk:P[k]?=some P[k]:=j_ (by omega);obtain⟨a,ha,hab,hc⟩:=iq1 hrk (show (i64v P)[k]?=some (.int .i64 ((P[k]:Nat):Int)) by unfold i64v;rw[b3_,hPk];rfl);have hxb:=HPB.out _ (v_ (show k < P.length by omega));have htk:P.take (k+1)=P.take k++[P[k]]:=o_ (by omega);generalize P[k]=x at *;obtain⟨B,hB⟩:=n_ ((P.take k).foldl Tb.jx1 b);have hBl:B.length=b.length:=by rw[hB];exact xv1 _ _
   have hk1:=HK.out.1;rw[←hB]at hk1;subst ha;have c1:=hk1.box.c1;obtain⟨q,hq⟩:=n_ (x / 8);obtain⟨j,hj⟩:=n_ (x % 8);have hx8:q < B.length:=by omega
   have cg:=hk1.bits.cell q;obtain⟨bx,hBx⟩:∃bx,B[q]?=some bx:=⟨_,j_ hx8⟩;rw[fj4,hBx]at cg;have zg:=hk1.bits.free q;rw[hBl]at c1;have hq8:(x:Int) / 8=(q:Int):=by omega
   have hq8i:(q:Int) < (b.length:Int):=by omega
   have hq8n:q < b.length:=by omega
   have hm8:(x:Int) % 8=(j:Int):=by omega
   have hmt:(x:Int).tmod 8=(j:Int):=by rw[Int.tmod_eq_emod_of_nonneg (by omega)];omega
   have hj8:j < 8:=by omega
   have hwq:IntKind.i64.wrap (q:Int)=(q:Int):=F_ _ (by omega);have hwj:IntKind.i64.wrap (j:Int)=(j:Int):=F_ _ (by omega);have hj8i:(j:Int) < 8:=by omega
   have hor:=dj5 bx hj8;have HQJ:=H_ (d_ hq hj);have HOR:=H_ hor;clear hor hq hj;have HB:=H_ (d_ hB (d_ hBl (d_ hBx hx8)));have HK1:=H_ hk1;have HT:=H_ htk;clear hB hBl hBx hx8 hk1 htk;have hm8:(x:Int) % 8=((x % 8:Nat):Int):=by omega
   have hmt:(x:Int).tmod 8=((x % 8:Nat):Int):=by rw[Int.tmod_eq_emod_of_nonneg (by omega)];omega
   go_wp2_with fail
   go_still_tail 13,(by kernel_rfl)
   change wpList _ _ _ _ _ (World.drew wr);have hst:=HK1.out.set HQJ.out.1 HQJ.out.2 HB.out.2.2.1;rw[←HOR.out]at hst;have HST:=H_ hst;clear hst;go_wp2;go_roundw
   case rel=>exact⟨k+1,by omega,by go_num,H_ ⟨by rw[HT.out,bn_,←HB.out.1];exact HST.out.1,HK.out.2.trans HST.out.2 (fun g hg=>.inl hg)⟩⟩
   case measure=>simp[intOf];omega
  ·have hki:((k:Int) < 7)=False:=eq_false (by omega)
   have hall:P.take k=P:=i_ (by omega);have hk2:=HK.out;rw[hall]at hk2;have HF:=H_ (d_ hk2.1 ((Chg.of_below HB1.out [g]).trans hk2.2 (fun g hg=>.inl hg)));clear hk2 HK hall;go_wp2;exact bodyPost_end (v:=.tuple #[]) (by simp[results,go_sem]) rfl ⟨rfl,HF.out⟩
theorem kq5 {w:World} {f g:Nat} {b:List UInt8} (h:BlAt w f g b):Row w.heap.size w (some ⟨g,0,none⟩) b.length 1 (bts b):=by
 refine⟨by rw[pq,aW_],fun j hj=>⟨_,rfl,h.bits.lt,?_⟩⟩;rw[show ((⟨g,0,none⟩:Addr).add j)=⟨g,j,none⟩ by rw[Addr.add_lit,ag_],h.bits.cell];exact j_ hj
theorem BlAt.app {w w':World} {f g:Nat} {b:List UInt8} {r:Option Nat} (h:BlAt w f g b) (hg:w.grownBy w' r) (hr:some f≠r∧some g≠r):BlAt w' f g b:=⟨h.box.tv1 hg hr.1,h.bits.tv1 hg hr.2,h.ne⟩
theorem zq4 {w w1 w2:World} {f g n base:Nat} {b:List UInt8} {v:Value} {xs:List Value} {e:TypeId} (ho:w2.ownsRow base e 1 v n xs) (hb:Below w1.heap.size w1 w2) (h:BlAt w f g b) (hB:w.heap.size≤base:=by omega):some f≠v.ownBlock∧some g≠v.ownBlock:=by
 have h1:=h.box.lt;have h2:=h.bits.lt
 rcases ho.2 with ⟨rfl,_⟩|⟨g',cap,cur,rfl,hg',_⟩
 ·exact⟨(by intro e;cases e),(by intro e;cases e)⟩
 ·refine⟨fun e=>?_,fun e=>?_⟩
  ·have e:f=g':=ap_ e
   omega
  ·have e:g=g':=ap_ e
   omega
def blb (b:List UInt8):List UInt8:=Pn.put 7++(Pn.put b.length++b)
theorem kz0 {P S a oi v} (h:Hv P S a oi v:=by intro w hSw;(have c0:=hSw.box.c0;have c1:=hSw.box.c1);go_simp;try (with_reducible rfl)):Hv P S a oi v:=h
theorem bw3 (f g:Nat) (b:List UInt8) (w:World) (h:BlAt w f g b) (hbl:b.length≤3000):
  Calls Tryz.prog 265 #[.pointer (some ⟨f,0,none⟩)] w fun e w'=>∃A' M c',e=.returned (.slice A' M c')∧w'.ownsRow w.heap.size 5 1 (.slice A' M c') M (bts (blb b))∧M≤c'∧c'≤maxLen∧Below w.heap.size w w':=by
 obtain⟨i0,hi0,hz0,hz1,hz2⟩:=info_parts eq1;have hp1:=put_any none 0 0 [] 7 (by decide) w.drew (by omega) Row.nil_;simp only[ag_,y_]at hp1;have hcv:∀w,(convert 3 22 (.int .i64 (b.length:Int))).run Tryz.prog w=.ok (.int .u64 (b.length:Int)) w:=by
  intro w;have:(b.length:Int) % 18446744073709551616=(b.length:Int):=by omega
  simp[go_sem,convert,IntKind.wrap_u64,this]
 have l7:(Pn.put 7).length=1:=by decide
 rw[l7,show ((7:Nat):Int)=IntKind.u64.wrap 7 from by decide]at hp1;have hpl:=Pn.ik b.length;have HP1:=H_ hp1;have H:=H_ h;clear hp1 h l7;go_enter Tryz.func265,Tryz.ntmps265;go_wp2_with fail;refine wp_region_held_drew (S:=fun w'=>BlAt w' f g b) rfl (H.out.below (ak b0_)) (fun hSw=>?_);refine w_v 0 hSw ?_ (k:=kz0);go_simp;refine w_v 1 hSw ?_ (k:=kz0);go_simp;refine w_v 2 hSw ?_ (k:=kz0);go_simp;refine w_v 3 hSw ?_ (k:=kz0);go_simp;refine w_v 4 hSw ?_ (k:=kz0);go_simp;refine w_v 6 hSw ?_ (k:=kz0);go_simp;refine w_v 7 hSw ?_ (k:=kz0);go_simp;refine w_v 8 hSw ?_ (k:=kz0);go_simp;refine w_v 9 hSw ?_ (k:=kz0);go_simp;refine w_v 10 hSw ?_ (k:=kz0);go_simp;refine w_v 11 hSw ?_ (k:=kz0);go_simp;refine w_v 13 hSw ?_ (k:=kz0);go_simp;refine w_v 14 hSw ?_ (k:=kz0);go_simp;refine w_v 15 hSw ?_ (k:=kz0);go_simp;refine w_v 16 hSw ?_ (k:=kz0);go_simp;refine w_r 5 fun K hK=>?_;go_simp
 with_reducible refine HP1.out.mono ?_
 (rintro e w1 ⟨A1,c1,rfl,ho1,hc1,hm1,hb1⟩;have hb1':=(ak (Below.refl w.heap.size w)).trans hb1;have hp2:=put_any A1 1 c1 (Pn.put 7) b.length (by omega) w1 (by omega) (Row.own ho1))
 go_simp;refine hK.out _ _ (H.out.below hb1') ?_;clear hSw hK K;intro hSw;go_simp;refine w_r 12 fun K hK=>?_;go_simp
 with_reducible refine hp2.mono ?_
 (rintro e w2 ⟨A2,c2,rfl,ho2,hc2,hm2,hb2⟩;have hb2':=hb1'.trans (hb2.mono hb1'.size);have hob:=own_base ho2 hb1'.size;have hbB:=H.out.below hb2';have hrb:=kq5 hbB)
 go_simp;refine hK.out _ _ hbB ?_;clear hSw hK K;intro hSw;go_simp;refine w_r 17 fun K hK=>?_;refine tw2 rfl (.tmp 15) (.tmp 19) _ rfl w.heap.size 5 i0 _ 1 1 Tryz.underlying56 hi0 hz0 hz1 hz2 rfl (by omega) hb2'.size (.slice A2 (1+(Pn.put b.length).length) c2) (1+(Pn.put b.length).length) _ rfl hob w2.heap.size _ b.length b.length (bts b) rfl hrb (xy _) (1+(Pn.put b.length).length+b.length) (bts (blb b)) rfl (by simp[bts,blb]) (by unfold maxLen;omega) (by omega) ?_;intro A3 c3 w3 z1 z2 z3 z4 z5;have hfin:=xz1 hb2' hob z2 hb2'.size;refine hK.out _ _ (BlAt.app hbB z2 (zq4 hob hb2 H.out)) ?_;clear hSw hK K;intro hSw;go_simp;refine w_v 18 hSw ?_ (k:=kz0);go_simp;refine wpAnyH_done (by kernel_rfl) ?_ _;clear hSw;have HF:=H_ (d_ z1 (d_ z3 (d_ z4 hfin)));clear z1 z2 z5 hfin hob hbB hrb;go_wp2;go_ret;exact⟨A3,_,c3,rfl,HF.out⟩
theorem fy3 (l:List It):∀b:List UInt8,(l.foldl (fun b a=>Tb.addKey b a.key) b).length=b.length:=by
 induction l with
 |nil=>exact fun _=>rfl
 |cons a l ih=>exact fun b=>by rw[bj_,ih,tj3]
theorem yk2 (L:Option Addr) (m d:Nat) (l:List It) (w:World) (hm:m≤2000) (hq:Row w.heap.size w L m 5 (itc l)) (hk:∀x∈l,x.ok=true):
  Calls Tryz.prog 264 #[.slice L m d] w fun e w'=>∃f g,e=.returned (.pointer (some ⟨f,0,none⟩))∧BlAt w' f g (Tb.bits l)∧w.heap.size≤f∧w.heap.size≤g∧Below w.heap.size w w':=by
 have hmn:=hq.uz;have hnw:=vv3 m w hm;obtain⟨b0,hb0⟩:=n_ (List.replicate (Tb.cy2 m) (0:UInt8));have hb1:0 < b0.length∧b0.length≤3000:=by rw[hb0,bQ_];unfold Tb.cy2;omega
 have hbt:Tb.bits l=l.foldl (fun b a=>Tb.addKey b a.key) b0:=by unfold Tb.bits;rw[hmn,hb0]
 rw[←hb0]at hnw;rw[hbt];have HNW:=H_ hnw;have HK:=H_ hk;clear hnw hk hb0 hbt;go_enter Tryz.func264,Tryz.ntmps264;go_wp2_with fail;refine HNW.out.mono ?_;rintro e w1 ⟨f,g,rfl,h1,hf,hg,hb⟩;have HH:=H_ (d_ h1 (d_ hf (d_ hg hb)));clear h1 hf hg hb HNW;go_wp2_with fail
 go_loopw [15] (fun i wr=>∃k:Nat,k≤m∧i=.int .i64 (k:Int)∧Hid (BlAt wr f g ((l.take k).foldl (fun b a=>Tb.addKey b a.key) b0)∧Below w.heap.size w wr)) (fun i _=>m - (intOf i).toNat)
 case atStart=>exact⟨0,by omega,rfl,H_ ⟨HH.out.1,HH.out.2.2.2⟩⟩
 case round=>
  obtain⟨k,hkm,rfl,HB⟩:=hrel
  by_cases hlt:k < m
  ·obtain⟨p,hl,rfl,hbk,d0,d1,d2,d3,d4⟩:=(hq.below HB.out.2).it hlt
   have hki:(k:Int) < (m:Int):=by omega
   have hwk:IntKind.i64.wrap (k:Int)=(k:Int):=F_ _ (by omega);have hxk:=HK.out _ (v_ hl);have htk:l.take (k+1)=l.take k++[l[k]]:=o_ hl;generalize l[k]=x at *;obtain⟨B,hB⟩:=n_ ((l.take k).foldl (fun b a=>Tb.addKey b a.key) b0);have hBl:B.length=b0.length:=by rw[hB];exact fy3 _ _
   have hb:=HB.out;rw[←hB]at hb;have hU:=b_ wr (.cells #[.int .i64 x.s,.int .i64 x.k,.int .u64 (x.t:Int),.int .u64 (x.v:Int),.int .i64 x.x] 36);have hky:=fun W=>wx3 x hxk W;unfold It.val at hky;have HKY:=H_ hky;have HU:=H_ hU;have HBB:=H_ (d_ hb (d_ hB hBl));have HT:=H_ htk;clear hky hU hb hB hBl htk;go_wp2_with fail;refine(HKY.out _).mono ?_;rintro e w2 ⟨A2,c2,rfl,hr2,_,_,hb2⟩;have hbw:=az HU.out hb2;have had:=fz4 f g B A2 10 c2 x.key w2 (HBB.out.1.1.below hbw) (by rw[HBB.out.2.2];exact hb1.1) (by rw[HBB.out.2.2];exact hb1.2) (by omega) hr2;have HAD:=H_ had;have HBW:=H_ hbw;clear had hbw hr2 hb2 HKY HU;go_wp2_with fail;refine HAD.out.mono ?_;rintro e w3 ⟨rfl,q1,q2⟩;have hfin:Below w.heap.size w w3:=by
    have h3:=HBB.out.1.2.trans (HBW.out.mono HBB.out.1.2.size);exact h3.trans (q2.below h3.size (fun x hx=>by rw[c_.1 hx];exact HH.out.2.2.1))
   have hfo:(l.take (k+1)).foldl (fun b a=>Tb.addKey b a.key) b0=Tb.addKey B x.key:=by rw[HT.out,bn_,←HBB.out.2.1];rfl
   have HF:=H_ (d_ (hfo▸q1:BlAt w3 f g ((l.take (k+1)).foldl (fun b a=>Tb.addKey b a.key) b0)) hfin);clear q1 q2 hfin hfo HAD HBW;go_wp2;go_roundw
   case rel=>exact⟨k+1,by omega,by go_num,HF⟩
   case measure=>simp[intOf];omega
  ·have hki:((k:Int) < (m:Int))=False:=eq_false (by omega)
   have hall:l.take k=l:=i_ (by omega);have hb:=HB.out;rw[hall]at hb;have HF:=H_ hb;clear hb HB hall;go_wp2;go_ret;exact⟨f,g,rfl,HF.out.1,HH.out.2.1,HH.out.2.2.1,HF.out.2⟩
end
section
open Go Go.RowKit Go.Shelf
variable {m:Nat} {X X1:Dw} {w w1 w2:World} {S S1:Sd} {M M1:Ms}
theorem ux2 (n:Int):(Mw.headB n).length≤200:=by
 have h1:=Pn.ik n.toNat;simp only[Mw.headB,Fr.uj];omega
def sCur:ByteArray:=⟨#[99,117,114,114,101,110,116]⟩
def lv2:ByteArray:=⟨#[99,117,114,114,101,110,116,46,116,109,112]⟩
def sMan:ByteArray:=⟨#[109,97,110]⟩
theorem wy3:sCur.data.toList=Mw.kCur:=rfl
theorem lj1:lv2.data.toList=Mw.jk:=rfl
theorem yj1:sMan.data.toList=Mn.kMan:=rfl
theorem dz4 (o:Option Int):numV o=.tuple #[.int .i64 (o.getD 0),.bool o.isSome]:=by cases o<;>rfl
theorem uv2 (s:List UInt8):∃k:Nat,(Mn.number s Mn.kMan).getD 0=(k:Int)∧k≤1073741824:=by
 cases h:Mn.number s Mn.kMan with
 |none=>exact⟨0,rfl,by omega⟩
 |some v=>
  have hs:s≠[]:=fun e=>by
   subst e;unfold Mn.number at h;rw[if_neg (by decide)]at h
   cases h
  have:=Mn.aq2 h hs;exact⟨v.toNat,by simp;omega,by omega⟩
end
section
open Go Go.RowKit Go.Shelf
variable {P:Sl} {m:Nat} {X X1:Dw} {w w1 w2:World} {S S1:Sd} {M M1:Gs}
theorem tz2 (nm:ByteArray) (hnm:nm.size≤1000) (hv:M.v.ok=true) (hld:S.load≤1000000000000) (h0:Gst P m X w S M w X):
  Calls Tryz.prog 178 #[.pointer (some ⟨m,0,none⟩),.string nm] w (ey1 P m X w (Gw.rewrite S M nm.data.toList)):=by
 have hmk:=h0.man;have c0:=hmk.cell 0;have c2:=hmk.cell 2;have c3:=hmk.cell 3;have c4:=hmk.cell 4;have c5:=hmk.cell 5;have c6:=hmk.cell 6;have c7:=hmk.cell 7;simp only[Gs.cells,gE0,gE1]at c0 c2 c3 c4 c5 c6 c7;obtain⟨R,hR⟩:=n_ (Gw.rewrite S M nm.data.toList);rw[←hR];have hrl:=Ed.sq1 (Vw.cx2 hv);have hput:=fun A n c W hr=>ix3 none 0 0 [] M.v.whole none 0 0 A n c W (Vw.cx2 hv) Row.nil_ hr (by omega) (by omega) (by unfold maxLen;omega) Row.nil_;have hwh:=ck4 M.v P.a P.n P.c w (by have:=h0.row.nb;omega) h0.row.row;have hRR:R=if (S.write nm.data.toList M.v.whole.rec_).2≠0 then ((S.write nm.data.toList M.v.whole.rec_).1,M,(S.write nm.data.toList M.v.whole.rec_).2) else Gw.tmp (S.write nm.data.toList M.v.whole.rec_).1 M nm.data.toList:=hR
 have hrec:([]:List UInt8)++M.v.whole.rec_=M.v.whole.rec_:=rfl;rw[hrec]at hput;unfold Vw.val at hwh;unfold Ed.val at hwh hput;have HR:=H_ hRR;have HP:=H_ hput;clear hR hput hRR hrec;go_enter Tryz.func178,Tryz.ntmps178;go_wp2_with fail;refine hwh.mono ?_;rintro e w1 ⟨A1,n1c,rfl,hfr,hb1⟩;have h1:=h0.below hb1;have hput:=HP.out A1 P.n n1c w1 hfr.row;clear hwh hfr HP;go_wp2_with fail;refine hput.mono ?_;rintro e w2 ⟨A,K,c,rfl,hown,hKc,hcm,hb2⟩;have h2:=h1.below hb2;have hrow:=Row.own hown;have hKl:K≤1099511627776:=by
  have e1:=hrow.xk;omega
 have hA:∀a,A=some a→a.block∉X.foot:=fun a ha hm=>by
  obtain⟨A',c',e,_,_,h6⟩:=dw hown;injection e with e _ _;have h7:=(h6 a (by rw[←e];exact ha)).1;have h8:=h1.acc.dm.dk.lt _ hm;omega
 have hwr:=h2.write nm (by unfold maxLen;omega) A K c M.v.whole.rec_ hKl (by omega) hrow hA;have hld1:=Sd.yj S nm.data.toList M.v.whole.rec_;have HWR:=H_ hwr;have HST:R=if (S.write nm.data.toList M.v.whole.rec_).2≠0 then ((S.write nm.data.toList M.v.whole.rec_).1,M,(S.write nm.data.toList M.v.whole.rec_).2) else Gw.tmp (S.write nm.data.toList M.v.whole.rec_).1 M nm.data.toList:=HR.out
 clear hwr HR hput hA hown hrow hb1 hb2;generalize S.write nm.data.toList M.v.whole.rec_=PP at *;obtain⟨S1,e1⟩:=PP;simp only at HST hld1;have HS:=H_ HST;clear HST;go_wp2_with fail;refine HWR.out.mono ?_;rintro e w3 ⟨rfl,X3,h3⟩
 by_cases q1:e1=0
 case neg=>
  have hne:=neq0 q1;have hh:=HS.out;rw[if_pos q1]at hh;have hl:=H_ (ey1.mk_ hh h3);clear hh;go_wp2;go_ret;exact hl.out
 subst q1;have HS2:Hid (R=Gw.tmp S1 M nm.data.toList):=HS.out.trans (if_neg (by simp));have hrd:=h3.read lv2 (by decide);rw[lj1]at hrd;unfold lv2 at hrd;have HRD:=H_ hrd;clear hrd HS HWR;go_wp2_with fail;refine HRD.out.mono ?_;rintro e w4 ⟨A4,c4,rfl,hb4⟩;have h4:=h3.below hb4;clear HRD hb4;generalize hE:(S1.read Mw.jk).2=er2;generalize (S1.read Mw.jk).1.length=ln2;have HE:=H_ hE;clear hE;go_upto_if 53 with (fail)
 go_cut [] (fun wx=>∃S2 X2,Gst P m X w S2 M wx X2∧Hid (R=Gw.hd S2 M nm.data.toList)∧S2.load≤S.load+3)
 case first=>
  by_cases q2:er2=0
  ·subst q2
   have hrm:=h4.remove lv2 (by decide) (by omega);rw[lj1]at hrm;unfold lv2 at hrm;have hl2:=Sd.bq1 S1 Mw.jk;have HT:R=if (S1.remove Mw.jk).2≠0 then ((S1.remove Mw.jk).1,M,(S1.remove Mw.jk).2) else Gw.hd (S1.remove Mw.jk).1 M nm.data.toList:=HS2.out.trans (if_pos HE.out)
   generalize S1.remove Mw.jk=PP at *;obtain⟨S2,e2⟩:=PP;simp only at HT hl2;have HRM:=H_ hrm;have HT2:=H_ HT;clear hrm HT;go_wp2_with fail;refine HRM.out.mono ?_;rintro e w5 ⟨rfl,X5,h5⟩
   by_cases q3:e2=0
   ·subst q3
    have HT3:Hid (R=Gw.hd S2 M nm.data.toList):=HT2.out.trans (if_neg (by simp));go_wp2_with fail
    go_meet
    case rel=>exact⟨S2,X5,h5,HT3,by omega⟩
   ·have hne:=neq0 q3
    have hh:=HT2.out;rw[if_pos q3]at hh;have hl:=H_ (ey1.mk_ hh h5);clear hh;go_wp2;go_ret;exact hl.out
  ·have q3:(((er2:Int))==0)=false:=by simp[q2]
   have HT3:Hid (R=Gw.hd S1 M nm.data.toList):=HS2.out.trans (if_neg (by rw[HE.out];exact q2));go_wp2_with fail
   go_meet
   case rel=>exact⟨S1,X3,h4,HT3,by omega⟩
 case rest=>
  obtain⟨S2,X5,h5,HT3,hl3⟩:=hcut;clear h4 HS2 HE h3 h2 h1 hld1;have hnum:=ly1 nm sMan (by omega) (by decide) wc h5.acc.dm.env;rw[yj1,dz4]at hnum;obtain⟨k,hk,hk2⟩:=uv2 nm.data.toList;rw[hk]at hnum;have HK:=H_ hk;unfold sMan at hnum;have HN:=H_ hnum;clear hnum hk;go_wp2_with fail;refine HN.out.mono ?_;rintro e w6 ⟨rfl,hb6⟩;have h6:=h5.below hb6;have hp:=put_any none 0 0 [] k (by omega) w6 (by omega) Row.nil_;simp only[ag_,y_]at hp;clear HN h5 hb6;go_wp2_with fail;refine hp.mono ?_;rintro e w7 ⟨A7,c7',rfl,hown7,hc7,hm7,hb7⟩;have h7:=h6.below hb7;have hpl:=Pn.ik k;have hf:=iv1 none 0 0 [] 8 A7 (Pn.put k).length c7' (Pn.put k) w7 (by omega) (by omega) (by unfold maxLen;omega) Row.nil_ (by omega) (by omega) (by omega) hc7 hm7 (Row.own hown7);rw[show ((8:Nat):Int)=8 from rfl]at hf;simp only[y_]at hf;clear hp hown7;go_wp2_with fail;refine hf.mono ?_;rintro e w8 ⟨A8,K8,c8,rfl,hown8,hK8,hm8,hb8⟩;have h8:=h7.below hb8;have hhead:Fr.put 8 (Pn.put k)=Mw.headB ((Mn.number nm.data.toList Mn.kMan).getD 0):=by
   rw[HK.out];rfl
  rw[hhead]at hown8;have hrow8:=Row.own hown8;have hKl:K8≤1099511627776:=by
   have e1:=hrow8.xk;have:=ux2 ((Mn.number nm.data.toList Mn.kMan).getD 0);omega
  have hA:∀a,A8=some a→a.block∉X5.foot:=fun a ha hm=>by
   obtain⟨A',c',e,_,_,h6⟩:=dw hown8;injection e with e _ _;have h9:=(h6 a (by rw[←e];exact ha)).1;have h10:=h7.acc.dm.dk.lt _ hm;omega
  have hwr:=h8.write lv2 (by decide) A8 K8 c8 _ hKl (by omega) hrow8 hA;rw[lj1]at hwr;unfold lv2 at hwr;have hl4:=Sd.yj S2 Mw.jk (Mw.headB ((Mn.number nm.data.toList Mn.kMan).getD 0));have HT4:R=if (S2.write Mw.jk (Mw.headB ((Mn.number nm.data.toList Mn.kMan).getD 0))).2≠0 then ((S2.write Mw.jk (Mw.headB ((Mn.number nm.data.toList Mn.kMan).getD 0))).1,M,(S2.write Mw.jk (Mw.headB ((Mn.number nm.data.toList Mn.kMan).getD 0))).2)
   else Gw.sd1 (S2.write Mw.jk (Mw.headB ((Mn.number nm.data.toList Mn.kMan).getD 0))).1 M nm.data.toList:=HT3.out
  generalize S2.write Mw.jk (Mw.headB ((Mn.number nm.data.toList Mn.kMan).getD 0))=PP at *;obtain⟨S3,e3⟩:=PP;simp only at HT4 hl4;have HWR:=H_ hwr;have HS4:=H_ HT4;clear hwr HT4 hown8 hrow8 hA hhead hf hKl HT3 hb7 hb8 h7 h6;go_wp2_with fail;refine HWR.out.mono ?_;rintro e w9 ⟨rfl,X9,h9⟩
  by_cases q3:e3=0
  case neg=>
   have hne:=neq0 q3;have hh:=HS4.out;rw[if_pos q3]at hh;have hl:=H_ (ey1.mk_ hh h9);clear hh;go_wp2;go_ret;exact hl.out
  subst q3;have HS5:Hid (R=Gw.sd1 S3 M nm.data.toList):=HS4.out.trans (if_neg (by simp));have hsd:=h9.ay;have hl5:=Sd.yx S3;have HT5:R=if (S3.ay).2≠0 then ((S3.ay).1,M,(S3.ay).2) else Gw.ren (S3.ay).1 M nm.data.toList:=HS5.out
  generalize S3.ay=PP at *;obtain⟨S4,e4⟩:=PP;simp only at HT5 hl5;have HSD:=H_ hsd;have HS6:=H_ HT5;clear hsd HT5 HS5 HS4 HWR h8;go_wp2_with fail;refine HSD.out.mono ?_;rintro e w10 ⟨rfl,X10,h10⟩
  by_cases q4:e4=0
  case neg=>
   have hne:=neq0 q4;have hh:=HS6.out;rw[if_pos q4]at hh;have hl:=H_ (ey1.mk_ hh h10);clear hh;go_wp2;go_ret;exact hl.out
  subst q4;have HS7:Hid (R=Gw.ren S4 M nm.data.toList):=HS6.out.trans (if_neg (by simp));have hrn:=h10.rename lv2 sCur (by decide) (by decide) (by omega);rw[lj1,wy3]at hrn;unfold lv2 sCur at hrn;have hl6:=Sd.yv1 S4 Mw.jk Mw.kCur;have HT6:R=if (S4.rename Mw.jk Mw.kCur).2≠0 then ((S4.rename Mw.jk Mw.kCur).1,M,(S4.rename Mw.jk Mw.kCur).2) else Gw.fin (S4.rename Mw.jk Mw.kCur).1 M nm.data.toList:=HS7.out
  generalize S4.rename Mw.jk Mw.kCur=PP at *;obtain⟨S5,e5⟩:=PP;simp only at HT6 hl6;have HRN:=H_ hrn;have HS8:=H_ HT6;clear hrn HT6 HS7 HS6 HSD h9;go_wp2_with fail;refine HRN.out.mono ?_;rintro e w11 ⟨rfl,X11,h11⟩
  by_cases q5:e5=0
  case neg=>
   have hne:=neq0 q5;have hh:=HS8.out;rw[if_pos q5]at hh;have hl:=H_ (ey1.mk_ hh h11);clear hh;go_wp2;go_ret;exact hl.out
  subst q5;have HS9:Hid (R=Gw.fin S5 M nm.data.toList):=HS8.out.trans (if_neg (by simp));have f1:=h11.man.free 1;have f8:=h11.man.free 8;have d1:=h11.man.cell 1;have d8:=h11.man.cell 8;simp only[Gs.cells,gE0,gE1]at d1 d8;have hmk2:GK ((w11.setCell ⟨m,1,none⟩ (.string nm)).setCell ⟨m,8,none⟩ (.int .i64 1)) m X.d { M with name:=nm.data.toList,count:=1 } P:=by
   have h12:=(h11.man.store 1 (.string nm)).store 8 (.int .i64 1);unfold GK Gs.cells;simp only[bj1];exact h12
  have h12:=h11.turn (((Chg.refl [m] w11).setCell _ (.inl (by simp))).setCell _ (.inl (by simp))) hmk2 rfl;have hsd2:=h12.ay;have hl7:=Sd.yx S5;have HT7:R=if (S5.ay).2≠0 then ((S5.ay).1,{ M with name:=nm.data.toList,count:=1,broken:=true },(S5.ay).2)
   else (Mw.sweep nm.data.toList (S5.ay).1.list (S5.ay).1,{ M with name:=nm.data.toList,count:=1 },0):=HS9.out
  generalize S5.ay=PP at *;obtain⟨S6,e6⟩:=PP;simp only at HT7 hl7;have HSD2:=H_ hsd2;have HS10:=H_ HT7;clear hsd2 HT7 HS9 HS8 HRN h10 hmk2;go_wp2_with fail;refine HSD2.out.mono ?_;rintro e w13 ⟨rfl,X13,h13⟩
  by_cases q6:e6=0
  case neg=>
   have hne:=neq0 q6;have hh:=HS10.out;rw[if_pos q6]at hh;have HH:=H_ hh;clear hh d1 d8 f1 f8 h11 h12;go_wp2_with fail;refine h13.wz4.mono ?_;rintro e w14 ⟨rfl,h14⟩;have hl:=H_ (ey1.mk_ HH.out h14);go_wp2;go_ret;exact hl.out
  subst q6;have HS11:Hid (R=(Mw.sweep nm.data.toList S6.list S6,{ M with name:=nm.data.toList,count:=1 },0)):=HS10.out.trans (if_neg (by simp));have hli:=h13.acc.list;have hnml:=lv1 h13.acc.dm.wf;have hlen:=pz1 h13.acc.dm.wf;obtain⟨L,hL⟩:=n_ S6.list;rw[←hL]at hli hnml hlen HS11;have HNM:=H_ hnml;have HLI:=H_ hli;clear hL hnml hli HS10 HSD2 d1 d8 f1 f8 h11 h12;go_wp2_with fail;refine HLI.out.mono ?_;rintro e w14 ⟨A14,c14,rfl,hown14,hb14⟩;have h14:=h13.below hb14;have hcap:L.length≤c14:=by
   obtain⟨A',c',e,h1,_⟩:=dw hown14;injection e with _ e2 e3;omega
  have hA14:∀a,A14=some a→a.block∉[m] ++X13.foot:=fun a ha hm=>by
   obtain⟨A',c',e,_,_,h6⟩:=dw hown14;injection e with e _ _;have h15:=(h6 a (by rw[←e];exact ha)).1
   rcases q_.1 hm with h16|h16
   ·have:=h13.man.lt
    rw[c_.1 h16]at h15;omega
   ·have:=h13.acc.dm.dk.lt _ h16
    omega
  have hrow14:=Row.own hown14;have h15:=h14.anew;have HA:=H_ hA14;clear hown14 hb14 HLI hA14 h13;go_wp2
  go_loopw [104] (fun i wr=>∃(j:Nat) (Sj:Sd) (Xj:Dw),j≤L.length∧i=.int .i64 (j:Int)∧Gst P m X13 w14 Sj { M with name:=nm.data.toList,count:=1 } wr Xj∧Hid (Mw.sweep nm.data.toList L S6=Mw.sweep nm.data.toList (L.drop j) Sj)∧Sj.load≤S6.load+j) (fun i _=>L.length - (intOf i).toNat)
  case atStart=>exact⟨0,S6,X13,t_ _,rfl,h15,rfl,x_ _⟩
  case round=>
   obtain⟨j,Sj,Xj,hj,rfl,hMj,HSW,hlj⟩:=hrel
   by_cases hlt:j < L.length
   ·have hrow:=Row.mv2 hrow14 hMj.acc.c l_ HA.out
    obtain⟨a,hl',rfl,_,hcl⟩:=hrow.enc hlt;have hsn:=HNM.out _ (v_ hl');have hsl:=oz1 hsn;have hdrop:L.drop j=L[j]::L.drop (j+1):=bx_ hl';have hst:Mw.sweep nm.data.toList L S6=Mw.sweep nm.data.toList (L.drop (j+1)) (if (Mn.number L[j] Mn.kMan).isSome&&!(L[j]==nm.data.toList) then (Sj.remove L[j]).1 else Sj):=by
     rw[show Mw.sweep nm.data.toList L S6=_ from HSW.out,hdrop];rfl
    have HST:=H_ hst;have hnum:=ly1 (str L[j]) sMan (by rw[kz];omega) (by decide) wr hMj.acc.dm.env;rw[nz,yj1,dz4]at hnum;unfold sMan at hnum;have hrem:=fun w2 (hb:Below wr.heap.size wr w2)=>(hMj.below hb).remove (str L[j]) (by rw[kz];unfold maxLen;omega) (by omega);have hrl:=Sd.bq1 Sj L[j];rw[nz]at hrem;have hxd:=h15.acc.e;have hxe:=h14.acc.e;rw[hxe]at hrem;have HRM:=H_ hrem;have HNU:=H_ hnum;have hbq:((str L[j]).toList==nm.toList)=(L[j]==nm.data.toList):=by
     rw[ByteArray.toList_eq,ByteArray.toList_eq,nz]
    have HBQ:=H_ hbq;clear hrem hnum hst hdrop hsn hrow hxd hxe hbq;generalize L[j]=s at *;go_wp2_with fail;refine HNU.out.mono ?_;rintro e w16 ⟨rfl,hb16⟩
    cases hns:Mn.number s Mn.kMan with
    |none=>
     rw[hns]at HST;have h17:=hMj.below hb16;clear hns HNU HRM hcl;go_wp2;go_roundw
     case rel=>exact⟨j+1,Sj,Xj,by omega,by go_num,h17,HST,by omega⟩
     case measure=>simp[intOf];omega
    |some v=>
     rw[hns]at HST
     cases hq:(s==nm.data.toList) with
     |true=>
      have q1:((str s).toList==nm.toList)=true:=by rw[HBQ.out,hq]
      rw[hq]at HST;have h17:=hMj.below hb16;clear hns HNU HRM hcl hq;go_wp2;go_roundw
      case rel=>exact⟨j+1,Sj,Xj,by omega,by go_num,h17,HST,by omega⟩
      case measure=>simp[intOf];omega
     |false=>
      have q1:((str s).toList==nm.toList)=false:=by rw[HBQ.out,hq]
      rw[hq]at HST;have hrm:=HRM.out w16 hb16;have hst2:Mw.sweep nm.data.toList L S6=Mw.sweep nm.data.toList (L.drop (j+1)) (Sj.remove s).1:=HST.out;generalize Sj.remove s=PP at *;have HST2:=H_ hst2;have HRM2:=H_ hrm;clear hns HNU HRM hcl hq hrm hst2 HST;go_wp2_with fail;refine HRM2.out.mono ?_;rintro e w17 ⟨rfl,X17,h17⟩;go_wp2;go_roundw
      case rel=>exact⟨j+1,PP.1,X17,by omega,by go_num,h17,HST2,by omega⟩
      case measure=>simp[intOf];omega
   ·have e1:L.drop j=[]:=aq_ (by omega)
    have hR2:R=(Sj,{ M with name:=nm.data.toList,count:=1 },0):=by
     have:=HSW.out;rw[e1]at this;rw[show R=_ from HS11.out,this];rfl
    have hl:=H_ (ey1.mk_ hR2 (h14.trans hMj));clear e1 hR2 hrow14;go_wp2;go_ret;exact hl.out
end
end Go.Proofs.YthjdpplgfdihoaaGreatDoor
