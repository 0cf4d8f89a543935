/- Texts ManE, ManF, ManG, ManJ, ManK, PlainRestB, LawA, PlainRestG, LawB, LawG, RefA, EditL, Edits, Views, ManL, PlainStore, Fixed, KeepA, HasA in one. No conditions. -/
import Derived.Test.YthjdpplgfdihoaaGreatDoorBunAQ
import Derived.Test.YthjdpplgfdihoaaGreatDoorBunAP
import Derived.Test.YthjdpplgfdihoaaGreatDoorBunAO

set_option linter.unusedSimpArgs false
set_option linter.unusedVariables false
set_option maxRecDepth 100000
set_option maxHeartbeats 16000000
namespace Go.Proofs.YthjdpplgfdihoaaGreatDoor
section
open Go Go.RowKit Go.Shelf
variable {m:Nat} {X X1:Dw} {w w1 w2:World} {S S1:Sd} {M M1:Ms}
end
section
open Go Go.RowKit Go.Shelf
variable {m:Nat} {X X1:Dw} {w w1 w2:World} {S S1:Sd} {M M1:Ms}
end
section
open Go Go.RowKit Go.Shelf
variable {m:Nat} {X X1:Dw} {w w1 w2:World} {S S1:Sd} {M M1:Ms}
theorem bk5 (n:Int):(Mn.name Mn.kMan n).length≤1000:=by
 by_cases hne:Mn.name Mn.kMan n=[]
 ·rw[hne];simp
 ·have:=Mn.pk2 hne
  omega
end
section
open Go Go.RowKit Go.Shelf
variable {P:Sl} {m:Nat} {X X1:Dw} {w w1 w2:World} {S S1:Sd} {M M1:Gs}
theorem vy2 (xd:Nat) (h:GK w m xd M P):Calls Tryz.prog 208 #[.pointer (some ⟨m,0,none⟩)] w fun e w'=>e=.returned (.bool M.broken)∧w=w':=by
 have c1:=h.cell 12;simp only[Gs.cells,gE0,gE1]at c1;go_enter Tryz.func208,Tryz.ntmps208;go_wp2;go_ret;exact⟨rfl,rfl⟩
theorem ix2 (xd:Nat) (h:GK w m xd M P) (hr:Row w.heap.size w P.a P.n 2 (ax M.v.files)) (hn:P.n≤10000):Calls Tryz.prog 81 #[.pointer (some ⟨m,0,none⟩)] w fun e w'=>∃A c,e=.returned (M.v.val A P.n c)∧gj1 w.heap.size w' A P.n c M.v.files∧Below w.heap.size w w':=by
 have hlt:=h.lt;have h1:GK (w.alloc (.cells #[.int .i64 0,.slice none 0 0,.int .u64 0,.int .u64 0,.int .u64 0,.int .u64 0] 86)) m xd M P:=BoxO.alloc h _;have hr1:=(hr.alloc l_ (.cells #[.int .i64 0,.slice none 0 0,.int .u64 0,.int .u64 0,.int .u64 0,.int .u64 0] 86)).up (B':=(w.alloc (.cells #[.int .i64 0,.slice none 0 0,.int .u64 0,.int .u64 0,.int .u64 0,.int .u64 0] 86)).heap.size) (by simp);have c2:=h1.cell 2;have c3:=h1.cell 3;have c4:=h1.cell 4;have c5:=h1.cell 5;have c6:=h1.cell 6;have c7:=h1.cell 7;have hbx:=BoxO.new w #[.int .i64 0,.slice none 0 0,.int .u64 0,.int .u64 0,.int .u64 0,.int .u64 0] 86;simp only[Gs.cells,gE0,gE1]at c2 c3 c4 c5 c6 c7;have how:=gw4 M.v P.a P.n P.c _ (by omega) hr1;have hb0:Below w.heap.size w (w.alloc (.cells #[.int .i64 0,.slice none 0 0,.int .u64 0,.int .u64 0,.int .u64 0,.int .u64 0] 86)):=b_ _ _;unfold Vw.val at *;generalize hV:w.alloc (.cells #[.int .i64 0,.slice none 0 0,.int .u64 0,.int .u64 0,.int .u64 0,.int .u64 0] 86)=V at *;go_enter Tryz.func81,Tryz.ntmps81;go_wp2_with fail;refine how.mono ?_;rintro e w1 ⟨A1,c1,rfl,hfr,hb1⟩;have hb2:=az hb0 hb1;have hbx1:=hbx.below hb1;have hlt1:=hbx1.lt;have hfr1:=hfr.base hb0.size;have f0:=hbx1.free 0;have f1:=hbx1.free 1;have f2:=hbx1.free 2;have f3:=hbx1.free 3;have f4:=hbx1.free 4;have f5:=hbx1.free 5;have g0:=hbx1.c0;have g1:=hbx1.c1;have g2:=hbx1.c2;have g3:=hbx1.c3;have g4:=hbx1.c4;have g5:=hbx1.c5;have hst:=(((((hb2.setCell (p:=⟨w.heap.size,0,none⟩) l_ (.int .i64 M.v.log)).setCell (p:=⟨w.heap.size,1,none⟩) l_ (.slice A1 P.n c1)).setCell (p:=⟨w.heap.size,2,none⟩) l_ (.int .u64 (M.v.floor:Int))).setCell (p:=⟨w.heap.size,3,none⟩) l_ (.int .u64 (M.v.cert:Int))).setCell (p:=⟨w.heap.size,4,none⟩) l_ (.int .u64 (M.v.at_:Int))).setCell (p:=⟨w.heap.size,5,none⟩) l_ (.int .u64 (M.v.lease:Int));have hcg:Chg [w.heap.size] w1 ((((((w1.setCell ⟨w.heap.size,0,none⟩ (.int .i64 M.v.log)).setCell ⟨w.heap.size,1,none⟩ (.slice A1 P.n c1)).setCell ⟨w.heap.size,2,none⟩ (.int .u64 (M.v.floor:Int))).setCell ⟨w.heap.size,3,none⟩ (.int .u64 (M.v.cert:Int))).setCell ⟨w.heap.size,4,none⟩ (.int .u64 (M.v.at_:Int))).setCell ⟨w.heap.size,5,none⟩ (.int .u64 (M.v.lease:Int))):=
  ((((((Chg.refl [w.heap.size] w1).setCell _ (.inl (by simp))).setCell _ (.inl (by simp))).setCell _ (.inl (by simp))).setCell _ (.inl (by simp))).setCell _ (.inl (by simp))).setCell _ (.inl (by simp))
 have hVs:V.heap.size=w.heap.size+1:=by rw[←hV];simp
 have hfr2:=hfr1.chg hcg (fun a ha hm=>by have:=hfr.low a ha;simp at hm;omega);have HS:=H_ hst;have HF:=H_ hfr2;clear hst hbx1 hbx hb1 hb2 hb0 how h1 c2 c3 c4 c5 c6 c7 hcg hfr hfr1 hfr2 hr1 hr hV hVs;go_wp2;exact bodyPost_ret (v:=.agg #[.int .i64 M.v.log,.slice A1 P.n c1,.int .u64 (M.v.floor:Int),.int .u64 (M.v.cert:Int),.int .u64 (M.v.at_:Int),.int .u64 (M.v.lease:Int)]) (by simp[results,Tryz.results81,go_sem,g0,g1,g2,g3,g4,g5]) rfl ⟨A1,c1,rfl,HF.out,HS.out⟩
end
section
open Go Go.RowKit Go.Shelf
variable {P:Sl} {m:Nat} {X X1:Dw} {w w1 w2:World} {S S1:Sd} {M M1:Gs}
structure gy5 (P:Sl) (X:Dw) (w:World) (S:Sd) (M:Gs) (m:Nat) (w':World) (X':Dw):Prop where
 e:X'.d=X.d
 dm:Dm w' X' S
 man:GK w' m X.d M P
 row:Vrow w' X' m P M.v.files
 away:m∉X'.foot
 c:Chg X.foot w w'
 f:∀g∈X'.foot,g∈X.foot∨w.heap.size≤g
 new:w.heap.size≤m
theorem jj4 (hb:Below w.heap.size w w1) (hm:w.heap.size≤m) (k:Gst P m X w1 S1 M1 w2 X1):gy5 P X w S1 M1 m w2 X1:=
 ⟨k.acc.e,k.acc.dm,k.man,k.row,k.away,((Chg.of_below hb X.foot).trans k.acc.c (fun g hg=>by
  rcases q_.1 hg with h1|h1
  ·rw[c_.1 h1];exact .inr hm
  ·exact .inl h1)),fun g hg=>by
  rcases k.acc.f g hg with h1|h1
  ·exact .inl h1
  ·exact .inr (h_ hb.size h1),hm⟩
theorem ry4 (v:Vw) (A:Option Addr) (n c:Nat) (hv:v.ok=true) (hn:n≤10000) (hnc:n≤c) (hcm:c≤maxLen) (hr:Row w.heap.size w A n 2 (ax v.files)) (hld:S.load≤1000000000000) (h:Dm w X S) (R:Sd×Gs×Nat) (hR:R=Gw.rewrite S ⟨[],v,0,false⟩ (Mn.name Mn.kMan 1)) (hR0:R.2.2=0):
  Calls Tryz.prog 152 #[.pointer (some ⟨X.d,0,none⟩),v.val A n c] w fun e w'=>∃P m X',e=.returned (.tuple #[.pointer (some ⟨m,0,none⟩),.int .i64 0])∧gy5 P X w R.1 R.2.1 m w' X':=by
 have HR:=H_ hR;have HR0:=H_ hR0;clear hR hR0;have hb0:Below w.heap.size w (w.alloc (.cells #[.int .i64 v.log,.slice A n c,.int .u64 (v.floor:Int),.int .u64 (v.cert:Int),.int .u64 (v.at_:Int),.int .u64 (v.lease:Int)] 86)):=b_ _ _;have hbx:=BoxO.new w #[.int .i64 v.log,.slice A n c,.int .u64 (v.floor:Int),.int .u64 (v.cert:Int),.int .u64 (v.at_:Int),.int .u64 (v.lease:Int)] 86;generalize hV:w.alloc (.cells #[.int .i64 v.log,.slice A n c,.int .u64 (v.floor:Int),.int .u64 (v.cert:Int),.int .u64 (v.at_:Int),.int .u64 (v.lease:Int)] 86)=V at *;have hr1:=(hr.below hb0).up hb0.size;have hok:=vz4 v A n c V (by omega) hnc hcm hr1;rw[hv]at hok;have how:=fun W hW=>gw4 v A n c W (by omega) hW;have x0:=hbx.c0;have x1:=hbx.c1;have x2:=hbx.c2;have x3:=hbx.c3;have x4:=hbx.c4;have x5:=hbx.c5;unfold Vw.val at hok how ⊢;have HOW:=H_ how;clear how;go_enter Tryz.func152,Tryz.ntmps152;go_wp2_with fail;refine hok.mono ?_;rintro e w1 ⟨rfl,hb1⟩;have hbx1:=hbx.below hb1;have x0:=hbx1.c0;have x1:=hbx1.c1;have x2:=hbx1.c2;have x3:=hbx1.c3;have x4:=hbx1.c4;have x5:=hbx1.c5;have hb01:=az hb0 hb1;have how:=HOW.out w1 ((hr1.below hb1).up hb1.size);clear hok hb1 hbx hb0 HOW hr1 hr;go_wp2_with fail;refine how.mono ?_;rintro e w2 ⟨A2,c2,rfl,hfr,hb2⟩;have hb02:=az hb01 hb2;have hb3:=hb02.alloc hb02.size (.cells #[.pointer (some ⟨X.d,0,none⟩),.string ⟨#[]⟩,.int .i64 v.log,.slice A2 n c2,.int .u64 (v.floor:Int),.int .u64 (v.cert:Int),.int .u64 (v.at_:Int),.int .u64 (v.lease:Int),.int .i64 0,.int .u32 0,.int .i32 0,.int .u32 0,.bool false] 224);have hmk:GK (w2.alloc (.cells #[.pointer (some ⟨X.d,0,none⟩),.string ⟨#[]⟩,.int .i64 v.log,.slice A2 n c2,.int .u64 (v.floor:Int),.int .u64 (v.cert:Int),.int .u64 (v.at_:Int),.int .u64 (v.lease:Int),.int .i64 0,.int .u32 0,.int .i32 0,.int .u32 0,.bool false] 224)) w2.heap.size X.d ⟨[],v,0,false⟩ ⟨A2,n,c2⟩:=BoxO.new w2 #[.pointer (some ⟨X.d,0,none⟩),.string ⟨#[]⟩,.int .i64 v.log,.slice A2 n c2,.int .u64 (v.floor:Int),.int .u64 (v.cert:Int),.int .u64 (v.at_:Int),.int .u64 (v.lease:Int),.int .i64 0,.int .u32 0,.int .i32 0,.int .u32 0,.bool false] 224;have hm1:=hb02.size;have h3:=h.below hb3;have hvr:Vrow (w2.alloc (.cells #[.pointer (some ⟨X.d,0,none⟩),.string ⟨#[]⟩,.int .i64 v.log,.slice A2 n c2,.int .u64 (v.floor:Int),.int .u64 (v.cert:Int),.int .u64 (v.at_:Int),.int .u64 (v.lease:Int),.int .i64 0,.int .u32 0,.int .i32 0,.int .u32 0,.bool false] 224)) X w2.heap.size ⟨A2,n,c2⟩ v.files:=by
  refine⟨(hfr.row.alloc l_ _).up (by simp),hfr.nc,hfr.cm,hn,fun j hj a ha=>⟨?_,fun hm=>?_⟩⟩
  ·obtain⟨a',e,hb,_⟩:=hfr.row.cell j hj
   simp only at ha;rw[ha]at e;injection e with e;subst e;omega
  ·have h4:=hfr.low a ha
   have h5:=h.dk.lt _ hm;have:=hb01.size;omega
 generalize hV3:w2.alloc (.cells #[.pointer (some ⟨X.d,0,none⟩),.string ⟨#[]⟩,.int .i64 v.log,.slice A2 n c2,.int .u64 (v.floor:Int),.int .u64 (v.cert:Int),.int .u64 (v.at_:Int),.int .u64 (v.lease:Int),.int .i64 0,.int .u32 0,.int .i32 0,.int .u32 0,.bool false] 224)=V3 at *;have hnm:=name_any sMan (by decide) 1 (by omega) V3 h3.env;rw[yj1]at hnm;unfold sMan at hnm;have hst:Gst ⟨A2,n,c2⟩ w2.heap.size X V3 S ⟨[],v,0,false⟩ V3 X:=Gst.start h3 hmk hvr (fun hm=>by have:=h.dk.lt _ hm;omega) (h_ h.env.base hm1);clear how hb2 hb02 hb01 hmk hbx1 x0 x1 x2 x3 x4 x5 hvr hfr;go_wp2_with fail;clear hV3;generalize w2.heap.size=m at *;refine hnm.mono ?_;rintro e w4 ⟨rfl,hb4⟩;have h4:=hst.below hb4;have hnl:=bk5 1;have hrw:=tz2 (str (Mn.name Mn.kMan 1)) (by rw[kz];exact hnl) hv hld h4.anew;rw[nz,←show R=_ from HR.out]at hrw;have HRW:=H_ hrw;clear hrw hnm hb4;go_wp2_with fail;refine HRW.out.mono ?_;rintro e w5 ⟨rfl,P5,X5,h5,_⟩;rw[show R.2.2=_ from HR0.out];have HB:=H_ (jj4 hb3 hm1 (h4.trans h5));clear h5 h4 hst h3 HRW;go_wp2;go_ret2;exact⟨_,_,_,rfl,HB.out⟩
end
section
open Go
namespace Mw
open Mn
def man (n:Nat):List UInt8:=name kMan n
theorem bv2 {n:Nat} (h1:1≤n) (h2:n≤1073741824):(fits n&&isKind kMan)=true:=by
 have:isKind kMan=true:=by decide
 rw[this];simp[fits];omega
theorem oz3 {n:Nat} (h1:1≤n) (h2:n≤1073741824):man n=[109,97,110,46] ++Lib.decDigits n:=by
 rw[man,dv1 (bv2 h1 h2)];rfl
theorem zq1 {n:Nat} (h1:1≤n) (h2:n≤1073741824):Sd.named (man n)=true:=qw3 (bv2 h1 h2)
theorem nq2 {n:Nat} (h1:1≤n) (h2:n≤1073741824):man n≠jk:=by
 rw[oz3 h1 h2];simp[jk]
theorem px2:kCur≠jk:=by decide
theorem rx1 {n:Nat} (h1:1≤n) (h2:n≤1073741824):number (man n) kMan=some (n:Int):=cy3 (bv2 h1 h2)
theorem rw1:number kCur kMan=none:=by
 unfold number;rw[if_neg (by decide)]
theorem lq1 (nm:List UInt8):∀(l:List (List UInt8)) (d:Sd),(∀s∈l,(number s kMan).isSome=true→s=nm)→sweep nm l d=d
 |[],d,_=>rfl
 |o::r,d,h=>by
  rw[sweep];have:((number o kMan).isSome&&!(o==nm))=false:=by
   cases ho:(number o kMan).isSome with
   |false=>rfl
   |true=>
    have:=h o (by simp) ho;simp[this]
  rw[this];exact lq1 nm r d (fun s hs=>h s (by simp[hs]))
theorem cv2:Sd.named kCur=true:=by decide
theorem fv1:Sd.named jk=true:=by decide
end Mw
end
section
open Go Go.RowKit Go.Shelf
variable {W0 w w1 w2:World} {X X1:Dw} {S S1:Sd} {m m1:Nat} {M M1:Ms}
namespace Mw
open Mn
theorem sz1 (nm:List UInt8):∀(l:List (List UInt8)) (d:Sd),(sweep nm l d).load≤d.load+l.length
 |[],d=>x_ _
 |o::r,d=>by
  rw[sweep];have h:=sz1 nm r;split
  ·have h1:=h (d.remove o).1
   have h2:=Sd.bq1 d o;simp only[r_];omega
  ·have h1:=h d
   simp only[r_];omega
end Mw
end
section
open Go
namespace Gw
open Mn
open Mw (kCur jk headB sweep man zq1 nq2 px2 cv2 fv1 rx1 rw1 lq1)
end Gw
end
section
open Go Go.RowKit Go.Shelf
end
section
open Go Go.RowKit Go.Shelf
variable {P P1:Sl} {W0 w w1 w2:World} {X X1:Dw} {S S1:Sd} {m m1:Nat} {M M1:Gs}
end
section
open Go Go.RowKit
variable {w W W':World} {ec cs:List Value} {A:Option Addr} {n c:Nat} {fs:List (Int×Int)}
end
section
open Go Go.RowKit
section
variable {w W W':World} {rb m N c:Nat} {D A:Option Addr} {ds:List Int} {ec:List Value} {l:List UInt8} {ok:Bool}
end
end
section
open Go Go.RowKit
structure Ev where
 e:Ed
 D:Option Addr
 m:Nat
 d:Nat
 A:Option Addr
 n:Nat
 c:Nat
structure Vc where
 v:Vw
 A:Option Addr
 n:Nat
 c:Nat
variable {B B' n:Nat} {w w':World} {A:Option Addr} {xs:List Ev} {ys:List Vc}
variable {b0 base:Nat} {gv ov gv' ov':Value} {gs:List Ev} {vs:List Vc}
theorem eq5 {B n size:Nat} {xs:List Value} (h:Row B w A n size xs) {j:Nat} (hj:j < xs.length) {a:Addr} (ha:A=some a):a.block < B:=by
 obtain⟨a',e,b,_⟩:=h.cell j hj;rw[ha]at e;injection e with e;subst e;exact b
end
section
open Go Go.RowKit
namespace Fr
end Fr
theorem Vw.dk5 {v u:Vw} {e:Ed} (h:v.app e=some u):u.files.length≤40:=by
 have:=Vw.ew5 h;simp only[Vw.ok,K_,decide_eq_true_eq]at this;omega
end
section
open Go Go.RowKit Go.Shelf
variable {P:Sl} {m:Nat} {X X1:Dw} {w w1 w2:World} {S S1:Sd} {M M1:Gs}
theorem Gst.ny3 {P1:Sl} {m:Nat} {X X1:Dw} {w w1 w2:World} {S:Sd} {M M1:Gs} (h:Gst P m X w S M w1 X1) (c:Chg [m] w1 w2) (hm:GK w2 m X.d M1 P1) (hv:Vrow w2 X1 m P1 M1.v.files):Gst P1 m X w S M1 w2 X1:=
 ⟨h.acc.other c (fun g hg=>by rw[c_.1 hg];exact⟨by simp,h.lt,h.out,h.ng⟩),hm,hv,h.lt,h.out,h.ng⟩
theorem kz45 {P S a oi v} (h:Hv P S a oi v:=by intro w hSw;(obtain⟨z2,z3,z4,z5,z6,z7,y0,y1,y2,y3,y4,y5,y6⟩:=KC.out w hSw);go_simp;try (with_reducible rfl)):Hv P S a oi v:=h
theorem ez4 (e:Ed) (D:Option Addr) (dm dd:Nat) (A2:Option Addr) (n2 c2:Nat) (hdm:dm≤1000000) (hn2:n2≤1000000) (hrd:Row w.heap.size w D dm 1 (vk e.drop)) (hra:Row w.heap.size w A2 n2 2 (ax e.add)) (hvf:P.n≤40)
  (hc0:M.count≤1000000000) (hnl:M.name.length≤1000) (h0:Gst P m X w S M w X):
  Calls Tryz.prog 207 #[.pointer (some ⟨m,0,none⟩),e.val D dm dd A2 n2 c2] w (ey1 P m X w (Gw.save S M e)):=by
 obtain⟨R,hR⟩:=n_ (Gw.save S M e);rw[←hR];unfold Ed.val;have hbe:Below w.heap.size w (w.alloc (.cells #[.slice D dm dd,.slice A2 n2 c2,.int .i64 e.log,.int .u64 (e.floor:Int),.int .u64 (e.cert:Int),.int .u64 (e.at_:Int),.int .u64 (e.lease:Int)] 194)):=b_ _ _;have h1:=h0.below hbe;have hbx:=BoxO.new w #[.slice D dm dd,.slice A2 n2 c2,.int .i64 e.log,.int .u64 (e.floor:Int),.int .u64 (e.cert:Int),.int .u64 (e.at_:Int),.int .u64 (e.lease:Int)] 194;have hrd1:=(hrd.below hbe).up hbe.size;have hra1:=(hra.below hbe).up hbe.size;have hlt:=h0.man.lt;have hbel0:=hbe;generalize hV:w.alloc (.cells #[.slice D dm dd,.slice A2 n2 c2,.int .i64 e.log,.int .u64 (e.floor:Int),.int .u64 (e.cert:Int),.int .u64 (e.at_:Int),.int .u64 (e.lease:Int)] 194)=V at *;have b12:=h1.man.cell 12;have y0:=hbx.cell 0;have y1:=hbx.cell 1;have y2:=hbx.cell 2;have y3:=hbx.cell 3;have y4:=hbx.cell 4;have y5:=hbx.cell 5;have y6:=hbx.cell 6;simp only[Gs.cells,gE0,gE1]at b12 y0 y1 y2 y3 y4 y5 y6
 cases hbr:M.broken with
 |true=>
  have hh:R=(S,M,14):=by rw[hR,Gw.save,if_pos hbr]
  have hl:=H_ (ey1.mk_ hh h1);rw[hbr]at b12;clear hR hh hbr;go_enter Tryz.func207,Tryz.ntmps207;go_wp2;go_ret;exact hl.out
 |false=>
 rw[hbr]at b12
 cases hmay:e.may with
 |false=>
  have hh:R=(S,M,1):=by rw[hR,Gw.save,if_neg (by simp[hbr]),if_pos hmay]
  have hput:=kv4 none 0 0 e D dm dd A2 n2 c2 V hmay hdm hn2 hrd1 hra1;unfold Ed.val at hput;have HH:=H_ hh;clear hR hh hbr hmay;go_enter Tryz.func207,Tryz.ntmps207;go_wp2_with fail;refine hput.mono ?_;rintro e1 w2 ⟨rfl,hb2⟩;have hl:=H_ (ey1.mk_ HH.out (h1.below hb2));go_wp2;go_ret;exact hl.out
 |true=>
  have hmp:=wx2 hmay;have hdl:=hrd.ilen;have hal:=hra.flen;have hrl:=Ed.sq1 hmay;have hput:=ix3 none 0 0 [] e D dm dd A2 n2 c2 V hmay hrd1 hra1 (by omega) (by omega) (by unfold maxLen;omega) Row.nil_;have hrec:([]:List UInt8)++e.rec_=e.rec_:=rfl;rw[hrec]at hput;unfold Ed.val at hput;obtain⟨okb,hokb⟩:∃b,b=(M.v.app e).isSome:=⟨_,rfl⟩;obtain⟨uu,huu⟩:∃u,u=(M.v.app e).getD Vw.none_:=⟨_,rfl⟩;have HT:R=if okb=true then Gw.put S M e uu else (S,M,1):=by
   rw[hR,Gw.save,if_neg (by simp[hbr]),if_neg (by simp[hmay])];rw[hokb,huu]
   cases M.v.app e with
   |none=>rfl
   |some u=>rfl
  have HTT:=H_ HT;have hdm40:dm≤40:=by omega
  have hn240:n2≤40:=by omega
  clear hR HT hbr hrec hmay hmp hdl hal;go_enter Tryz.func207,Tryz.ntmps207;go_wp2_with fail;refine hput.mono ?_;rintro e1 w2 ⟨A,K,c,rfl,hown,hKc,hcm,hb2⟩;have h2:=h1.below hb2;have hsz2:w.heap.size≤w2.heap.size:=h2.acc.c.size;have hbx2:=hbx.below hb2;have hrd2:=(hrd1.below hb2).up hb2.size;have hra2:=(hra1.below hb2).up hb2.size;have hKC:∀w':World,Below w2.heap.size w2 w'→w'.cell? ⟨m,2,none⟩=some (.int .i64 M.v.log)∧w'.cell? ⟨m,3,none⟩=some (.slice P.a P.n P.c)∧w'.cell? ⟨m,4,none⟩=some (.int .u64 (M.v.floor:Int))∧w'.cell? ⟨m,5,none⟩=some (.int .u64 (M.v.cert:Int))∧w'.cell? ⟨m,6,none⟩=some (.int .u64 (M.v.at_:Int))∧w'.cell? ⟨m,7,none⟩=some (.int .u64 (M.v.lease:Int))∧
    w'.cell? ⟨w.heap.size,0,none⟩=some (.slice D dm dd)∧w'.cell? ⟨w.heap.size,1,none⟩=some (.slice A2 n2 c2)∧w'.cell? ⟨w.heap.size,2,none⟩=some (.int .i64 e.log)∧w'.cell? ⟨w.heap.size,3,none⟩=some (.int .u64 (e.floor:Int))∧w'.cell? ⟨w.heap.size,4,none⟩=some (.int .u64 (e.cert:Int))∧w'.cell? ⟨w.heap.size,5,none⟩=some (.int .u64 (e.at_:Int))∧w'.cell? ⟨w.heap.size,6,none⟩=some (.int .u64 (e.lease:Int)):=fun w' hb=>by
   have hm2:=(h2.below hb).man;have he2:=hbx2.below hb;exact⟨hm2.cell 2,hm2.cell 3,hm2.cell 4,hm2.cell 5,hm2.cell 6,hm2.cell 7,he2.cell 0,he2.cell 1,he2.cell 2,he2.cell 3,he2.cell 4,he2.cell 5,he2.cell 6⟩
  have KC:=H_ hKC;have hap:∀W,Below w2.heap.size w2 W→Calls Tryz.prog 231 #[.agg #[.int .i64 M.v.log,.slice P.a P.n P.c,.int .u64 (M.v.floor:Int),.int .u64 (M.v.cert:Int),.int .u64 (M.v.at_:Int),.int .u64 (M.v.lease:Int)],.agg #[.slice D dm dd,.slice A2 n2 c2,.int .i64 e.log,.int .u64 (e.floor:Int),.int .u64 (e.cert:Int),.int .u64 (e.at_:Int),.int .u64 (e.lease:Int)]] W fun r W'=>Below W.heap.size W W'∧∃Au nu cu,r=.returned (.tuple #[.agg #[.int .i64 uu.log,.slice Au nu cu,.int .u64 (uu.floor:Int),.int .u64 (uu.cert:Int),.int .u64 (uu.at_:Int),.int .u64 (uu.lease:Int)],.bool okb])∧(okb=true→gj1 W.heap.size W' Au nu cu uu.files):=fun W hW=>by
   refine(gv4 M.v P.a P.n P.c e D dm dd A2 n2 c2 W (by omega) (by omega) (by omega) ((h2.row.row.below hW).up hW.size) ((hrd2.below hW).up hW.size) ((hra2.below hW).up hW.size)).mono ?_;rintro r W' ⟨hb,hr⟩;refine⟨hb,?_⟩
   cases hva:M.v.app e with
   |none=>
    rw[hva]at hr hokb huu;subst hokb huu;exact⟨none,0,0,hr,fun h=>by cases h⟩
   |some u=>
    rw[hva]at hr hokb huu;subst hokb huu;obtain⟨A3,N3,c3,hr,hf⟩:=hr;exact⟨A3,N3,c3,hr,fun _=>hf⟩
  have hok40:okb=true→uu.files.length≤40:=fun ho=>by
   cases hva:M.v.app e with
   |none=>rw[hokb,hva]at ho;cases ho
   |some u=>rw[huu,hva];exact Vw.dk5 hva
  have HAP:=H_ hap;have H40:=H_ hok40;clear hap hKC y0 y1 y2 y3 y4 y5 y6 hput b12 hb2 hokb huu hok40 hrd hra hrd1 hra1 hrd2 hra2 hbx hbx2 hV;go_wp2;refine wp_region_held_drew (S:=fun w'=>Below w2.heap.size w2 w') rfl (ak b0_) (fun hSw=>?_);refine w_v 0 hSw ?_ (k:=kz45);go_simp;refine w_v 1 hSw ?_ (k:=kz45);go_simp;refine w_v 2 hSw ?_ (k:=kz45);go_simp;refine w_v 3 hSw ?_ (k:=kz45);go_simp;refine w_v 4 hSw ?_ (k:=kz45);go_simp;refine wpAnyH_ready (rs:=[5,9]) (by kernel_rfl) (by simp) ?_;refine AllReadyH.cons rfl (fun K hK=>?_) (AllReadyH.cons rfl (fun K hK=>?_) AllReadyH.nil)
  case' refine_1=>
   go_simp;refine(HAP.out _ hSw).mono ?_;rintro e5 w5 ⟨hb5,Au,nu,cu,rfl,hfr⟩;go_simp;refine hK.out _ _ (hSw.trans (hb5.mono hSw.size)) ?_;clear hSw hK K;intro hSw;go_simp;refine w_v 6 hSw ?_ (k:=kz45);go_simp;refine w_v 7 hSw ?_ (k:=kz45);go_simp;refine w_v 8 hSw ?_ (k:=kz45);go_simp;have hS5:=H_ hSw;refine w_r 9 fun K hK=>?_;go_simp;refine hK.out _ _ (hSw.alloc hSw.size _) ?_;clear hSw hK K;intro hSw;go_simp;refine w_r 10 fun K hK=>?_;go_simp;refine hK.out _ _ (hS5.out.alloc hS5.out.size _) ?_;clear hSw hK K;intro hSw;go_simp;refine w_r 11 fun K hK=>?_;go_simp;refine hK.out _ _ hSw ?_;clear hSw hK K;intro hSw;go_simp;refine wpAnyH_done (by kernel_rfl) ?_ _;have hbv:BoxO _ 86 w5.heap.size [.int .i64 uu.log,.slice Au nu cu,.int .u64 (uu.floor:Int),.int .u64 (uu.cert:Int),.int .u64 (uu.at_:Int),.int .u64 (uu.lease:Int)]:=BoxO.new w5 #[.int .i64 uu.log,.slice Au nu cu,.int .u64 (uu.floor:Int),.int .u64 (uu.cert:Int),.int .u64 (uu.at_:Int),.int .u64 (uu.lease:Int)] 86;have hgb:w2.heap.size≤w5.heap.size:=hS5.out.size;have hfrW:okb=true→gj1 w2.heap.size (w5.alloc (.cells #[.int .i64 uu.log,.slice Au nu cu,.int .u64 (uu.floor:Int),.int .u64 (uu.cert:Int),.int .u64 (uu.at_:Int),.int .u64 (uu.lease:Int)] 86)) Au nu cu uu.files:=fun ho=>((hfr ho).base l_).below (b_ _ _);generalize w5.heap.size=gb at *;generalize w5.alloc (.cells #[.int .i64 uu.log,.slice Au nu cu,.int .u64 (uu.floor:Int),.int .u64 (uu.cert:Int),.int .u64 (uu.at_:Int),.int .u64 (uu.lease:Int)] 86)=W at *;clear hS5 hb5 hfr w5
  case' refine_2=>
   go_simp;refine hK.out _ _ (hSw.alloc hSw.size _) ?_;clear hSw hK K;intro hSw;go_simp;refine w_r 5 fun K hK=>?_;have hbz:BoxO (w2.drew.alloc (.cells #[.int .i64 0,.slice none 0 0,.int .u64 0,.int .u64 0,.int .u64 0,.int .u64 0] 86)) 86 w2.heap.size [.int .i64 0,.slice none 0 0,.int .u64 0,.int .u64 0,.int .u64 0,.int .u64 0]:=BoxO.new w2.drew #[.int .i64 0,.slice none 0 0,.int .u64 0,.int .u64 0,.int .u64 0,.int .u64 0] 86;go_simp;refine(HAP.out _ hSw).mono ?_;rintro e5 w5 ⟨hb5,Au,nu,cu,rfl,hfr⟩;have hbz5:=hbz.below hb5;go_simp;refine hK.out _ _ (hSw.trans (hb5.mono hSw.size)) ?_;clear hSw hK K;intro hSw;go_simp;refine w_v 6 hSw ?_ (k:=kz45);go_simp;refine w_v 7 hSw ?_ (k:=kz45);go_simp;refine w_v 8 hSw ?_ (k:=kz45);go_simp;have g0:=hbz5.c0;have f0:=hbz5.free 0;have g1:=hbz5.c1;have f1:=hbz5.free 1;have g2:=hbz5.c2;have f2:=hbz5.free 2;have g3:=hbz5.c3;have f3:=hbz5.free 3;have g4:=hbz5.c4;have f4:=hbz5.free 4;have g5:=hbz5.c5;have f5:=hbz5.free 5;refine w_r 10 fun K hK=>?_;go_simp;have hbv:=((((((hbz5.store 0 (.int .i64 uu.log)).store 1 (.slice Au nu cu)).store 2 (.int .u64 (uu.floor:Int))).store 3 (.int .u64 (uu.cert:Int))).store 4 (.int .u64 (uu.at_:Int))).store 5 (.int .u64 (uu.lease:Int)));have hCz:=(((((((Chg.refl [w2.heap.size] w5).setCell (p:=⟨w2.heap.size,0,none⟩) (.int .i64 uu.log) (.inl (by simp))).setCell (p:=⟨w2.heap.size,1,none⟩) (.slice Au nu cu) (.inl (by simp))).setCell (p:=⟨w2.heap.size,2,none⟩) (.int .u64 (uu.floor:Int)) (.inl (by simp))).setCell (p:=⟨w2.heap.size,3,none⟩) (.int .u64 (uu.cert:Int)) (.inl (by simp))).setCell (p:=⟨w2.heap.size,4,none⟩) (.int .u64 (uu.at_:Int)) (.inl (by simp))).setCell (p:=⟨w2.heap.size,5,none⟩) (.int .u64 (uu.lease:Int)) (.inl (by simp)));refine hK.out _ _ ((((((hSw.setCell (p:=⟨w2.heap.size,0,none⟩) l_ _).setCell (p:=⟨w2.heap.size,1,none⟩) l_ _).setCell (p:=⟨w2.heap.size,2,none⟩) l_ _).setCell (p:=⟨w2.heap.size,3,none⟩) l_ _).setCell (p:=⟨w2.heap.size,4,none⟩) l_ _).setCell (p:=⟨w2.heap.size,5,none⟩) l_ _) (fun hSn=>?_);clear g0 g1 g2 g3 g4 g5 f0 f1 f2 f3 f4 f5;clear hK K hSw;have hSw:=hSn;clear hSn;go_simp;refine w_r 11 fun K hK=>?_;go_simp;refine hK.out _ _ hSw ?_;clear hSw hK K;intro hSw;go_simp;refine wpAnyH_done (by kernel_rfl) ?_ _;have hbv:BoxO _ 86 w2.heap.size [.int .i64 uu.log,.slice Au nu cu,.int .u64 (uu.floor:Int),.int .u64 (uu.cert:Int),.int .u64 (uu.at_:Int),.int .u64 (uu.lease:Int)]:=hbv;have hfrW:okb=true→gj1 w2.heap.size ((((((w5.setCell ⟨w2.heap.size,0,none⟩ (.int .i64 uu.log)).setCell ⟨w2.heap.size,1,none⟩ (.slice Au nu cu)).setCell ⟨w2.heap.size,2,none⟩ (.int .u64 (uu.floor:Int))).setCell ⟨w2.heap.size,3,none⟩ (.int .u64 (uu.cert:Int))).setCell ⟨w2.heap.size,4,none⟩ (.int .u64 (uu.at_:Int))).setCell ⟨w2.heap.size,5,none⟩ (.int .u64 (uu.lease:Int))) Au nu cu uu.files:=fun ho=>((hfr ho).chg hCz (fun a ha hm=>by have:=(hfr ho).low a ha;simp at hm this;omega)).base (by simp);obtain⟨gb,hgb0,hgb⟩:∃g,g=w2.heap.size∧w2.heap.size≤g:=⟨_,rfl,x_ _⟩;generalize ((((((w5.setCell ⟨w2.heap.size,0,none⟩ (.int .i64 uu.log)).setCell ⟨w2.heap.size,1,none⟩ (.slice Au nu cu)).setCell ⟨w2.heap.size,2,none⟩ (.int .u64 (uu.floor:Int))).setCell ⟨w2.heap.size,3,none⟩ (.int .u64 (uu.cert:Int))).setCell ⟨w2.heap.size,4,none⟩ (.int .u64 (uu.at_:Int))).setCell ⟨w2.heap.size,5,none⟩ (.int .u64 (uu.lease:Int)))=W at *;clear hbz5 hbz hb5 hCz hfr w5;rw[←hgb0]at hbv ⊢;clear hgb0
  all_goals
   have h3:=h2.below hSw;have hfr3:=hfrW;have hm2lt:=h2.man.lt;have hdk2:=h2.acc.dm.dk;have hrow:=H_ ((((Row.own hown).below hSw)).arg (B:=w2.heap.size) hSw.size);have hA:∀a,A=some a→a.block∉X.foot:=fun a ha hm=>by
    obtain⟨A',c',e',_,_,h6⟩:=dw hown;injection e' with e' _ _;have h7:=(h6 a (by rw[←e'];exact ha)).1;have h8:=h1.acc.dm.dk.lt _ hm;omega
   have hKl:K≤1099511627776:=by
    have e1:=(Row.own hown).xk;omega
   have hmgb:¬m=gb:=by omega
   have hgbX:gb∉[m] ++X.foot:=fun hm=>by
    rcases q_.1 hm with h5|h5
    ·exact hmgb (c_.1 h5).symm
    ·have:=hdk2.lt _ h5
     omega
   have hS2:=hSw.size;clear hSw hfrW HAP h2
   cases okb with
   |false=>
    have hh:R=(S,M,1):=HTT.out.trans (if_neg (by simp));have hl:=H_ (ey1.mk_ hh h3);clear hh hbv h3 KC hfr3 hrow hA;go_wp2;go_ret;exact hl.out
   |true=>
   have HT1:=HTT.out.trans (if_pos rfl);have hfr4:=hfr3 rfl;have hu40:=H40.out rfl;have HT1H:=H_ HT1;clear HTT HT1 hfr3 H40;have h4:=(h3.below (ak b0_)).anew;have hbx5:BoxO W.drew 86 gb [.int .i64 uu.log,.slice Au nu cu,.int .u64 (uu.floor:Int),.int .u64 (uu.cert:Int),.int .u64 (uu.at_:Int),.int .u64 (uu.lease:Int)]:=hbv;have hap:=h4.append (str M.name) (by rw[kz];unfold maxLen;omega) A K c e.rec_ hKl hrow.out.drew hA;rw[nz]at hap;have HAP:=H_ hap;have d0:=h3.man.cell 0;have d1:=h3.man.cell 1;simp only[Gs.cells,gE0,gE1]at d0 d1;have HB5:=H_ hbx5;have HGX:=H_ hgbX;have hfrD:gj1 w2.heap.size W.drew Au nu cu uu.files:=hfr4.below (ak b0_);have HFR:=H_ hfrD;have HT2:Hid (R=if (S.append M.name e.rec_).2≠0 then ((S.append M.name e.rec_).1,M,(S.append M.name e.rec_).2) else if ((S.append M.name e.rec_).1.sync M.name).2≠0 then (((S.append M.name e.rec_).1.sync M.name).1,{ M with count:=M.count+1,v:=uu,broken:=true },((S.append M.name e.rec_).1.sync M.name).2) else (((S.append M.name e.rec_).1.sync M.name).1,{ M with count:=M.count+1,v:=uu },0)):=HT1H.out;have hmlt4:=h4.man.lt;have hfl:=hfr4.row.flen;clear hap hown hA hKl hrow hbv hbe hbel0 hbx5 hgbX KC hfr4 hfrD HT1H;generalize S.append M.name e.rec_=PP at *;obtain⟨S1,e1⟩:=PP;simp only at HT2;go_wp2
   go_still_tail 9,(by kernel_rfl)
   change wpList _ _ _ _ _ (World.drew W);go_wp2_with fail;refine HAP.out.mono ?_;rintro e6 w6 ⟨rfl,X6,h6⟩
   by_cases q1:e1=0
   case neg=>
    have hne:=neq0 q1;have hh:=HT2.out;rw[if_pos q1]at hh;have hl:=H_ (ey1.mk_ hh ((h3.below (ak b0_)).trans h6));clear hh;go_wp2;go_ret;exact hl.out
   subst q1;have HT3:Hid (R=if (S1.sync M.name).2≠0 then ((S1.sync M.name).1,{ M with count:=M.count+1,v:=uu,broken:=true },(S1.sync M.name).2) else ((S1.sync M.name).1,{ M with count:=M.count+1,v:=uu },0)):=HT2.out.trans (if_neg (by simp));have hbx6:=HB5.out.chg h6.acc.c HGX.out;have hrow6:Row w6.heap.size w6 Au nu 2 (ax uu.files):=by
    refine(oq h6.acc.c HFR.out.row l_ (fun j hj a ha hm=>?_)).up h6.acc.c.size;have h7:=HFR.out.low a ha
    rcases q_.1 hm with h5|h5
    ·have:=c_.1 h5
     omega
    ·have:=hdk2.lt _ h5
     omega
   have hvr6:Vrow w6 X6 m ⟨Au,nu,cu⟩ uu.files:=by
    refine⟨hrow6,HFR.out.nc,HFR.out.cm,by simp only;omega,fun j hj a ha=>?_⟩;have h7:=HFR.out.low a ha;have h8:=eq5 HFR.out.row hj ha;refine⟨by omega,fun hm=>?_⟩
    rcases h6.acc.f _ hm with h9|h9
    ·have:=hdk2.lt _ h9
     omega
    ·omega
   have hlow:∀a,(⟨Au,nu,cu⟩:Sl).a=some a→w.heap.size≤a.block:=fun a ha=>by
    have h7:=HFR.out.low a ha;omega
   have HLOW:=H_ hlow;clear hlow;have x0:=hbx6.cell 0;have x1:=hbx6.cell 1;have x2:=hbx6.cell 2;have x3:=hbx6.cell 3;have x4:=hbx6.cell 4;have x5:=hbx6.cell 5;have d2:=h6.man.cell 2;have d3:=h6.man.cell 3;have d4:=h6.man.cell 4;have d5:=h6.man.cell 5;have d6:=h6.man.cell 6;have d7:=h6.man.cell 7;have d8:=h6.man.cell 8;have f2:=h6.man.free 2;have f3:=h6.man.free 3;have f4:=h6.man.free 4;have f5:=h6.man.free 5;have f6:=h6.man.free 6;have f7:=h6.man.free 7;have f8:=h6.man.free 8;simp only[Gs.cells,gE0,gE1]at x0 x1 x2 x3 x4 x5 d2 d3 d4 d5 d6 d7 d8;have hmk:GK (((((((w6.setCell ⟨m,8,none⟩ (.int .i64 ((M.count:Int)+1))).setCell ⟨m,2,none⟩ (.int .i64 uu.log)).setCell ⟨m,3,none⟩ (.slice Au nu cu)).setCell ⟨m,4,none⟩ (.int .u64 (uu.floor:Int))).setCell ⟨m,5,none⟩ (.int .u64 (uu.cert:Int))).setCell ⟨m,6,none⟩ (.int .u64 (uu.at_:Int))).setCell ⟨m,7,none⟩ (.int .u64 (uu.lease:Int))) m X.d { M with count:=M.count+1,v:=uu } ⟨Au,nu,cu⟩:=(((((((h6.man.store 8 (.int .i64 ((M.count:Int)+1))).store 2 (.int .i64 uu.log)).store 3 (.slice Au nu cu)).store 4 (.int .u64 (uu.floor:Int))).store 5 (.int .u64 (uu.cert:Int))).store 6 (.int .u64 (uu.at_:Int))).store 7 (.int .u64 (uu.lease:Int)));have hcm6:Chg [m] w6 (((((((w6.setCell ⟨m,8,none⟩ (.int .i64 ((M.count:Int)+1))).setCell ⟨m,2,none⟩ (.int .i64 uu.log)).setCell ⟨m,3,none⟩ (.slice Au nu cu)).setCell ⟨m,4,none⟩ (.int .u64 (uu.floor:Int))).setCell ⟨m,5,none⟩ (.int .u64 (uu.cert:Int))).setCell ⟨m,6,none⟩ (.int .u64 (uu.at_:Int))).setCell ⟨m,7,none⟩ (.int .u64 (uu.lease:Int))):=((((((((Chg.refl [m] w6).setCell _ (.inl (by simp))).setCell _ (.inl (by simp))).setCell _ (.inl (by simp))).setCell _ (.inl (by simp))).setCell _ (.inl (by simp))).setCell _ (.inl (by simp))).setCell _ (.inl (by simp)));have h7:=H_ (((h3.below (ak b0_)).trans h6).ny3 hcm6 hmk (hvr6.turn hcm6));clear hmk hcm6 hbx6 h6 HAP h4 h3 HB5 HGX hvr6 hrow6 HFR;have D0:=h7.out.man.cell 0;have D1:=h7.out.man.cell 1;simp only[Gs.cells,gE0,gE1]at D0 D1;go_wp2;generalize (((((((w6.setCell ⟨m,8,none⟩ (.int .i64 ((M.count:Int)+1))).setCell ⟨m,2,none⟩ (.int .i64 uu.log)).setCell ⟨m,3,none⟩ (.slice Au nu cu)).setCell ⟨m,4,none⟩ (.int .u64 (uu.floor:Int))).setCell ⟨m,5,none⟩ (.int .u64 (uu.cert:Int))).setCell ⟨m,6,none⟩ (.int .u64 (uu.at_:Int))).setCell ⟨m,7,none⟩ (.int .u64 (uu.lease:Int)))=V7 at *;clear x0 x1 x2 x3 x4 x5 d2 d3 d4 d5 d6 d7 d8 f2 f3 f4 f5 f6 f7 f8 d0 d1;have h8:=h7.out.below (ak b0_);have hsy:=h8.sync (str M.name) (by rw[kz];unfold maxLen;omega);rw[nz]at hsy;have HSY:=H_ hsy;clear hsy h8;generalize S1.sync M.name=PP at *;obtain⟨S2,e2⟩:=PP
   go_still_tail 8,(by kernel_rfl)
   change wpList _ _ _ _ _ (World.drew V7);go_wp2_with fail;refine HSY.out.mono ?_;rintro e9 w9 ⟨rfl,X9,h9⟩
   by_cases q2:e2=0
   case neg=>
    have hne:=neq0 q2;have hh:R=(S2,{ M with count:=M.count+1,v:=uu,broken:=true },e2):=HT3.out.trans (if_pos q2);have HH:=H_ hh;clear hh;go_wp2_with fail;refine h9.wz4.mono ?_;rintro e10 w10 ⟨rfl,h10⟩;have hl:=H_ (ey1.mkN (P0:=P) HH.out h10 HLOW.out);go_wp2;go_ret;exact hl.out
   subst q2;have hl:=H_ (ey1.mkN (P0:=P) (HT3.out.trans (if_neg (by simp))) h9 HLOW.out);go_wp2;go_ret;exact hl.out
end
section
open Go
structure Sv where
 M:Gs
 nm:List UInt8
 sz:Nat
 ct:Nat
 mem:List It
 tabs:List ((Int×Int)×List (List It))
 st:List It
 only:Bool
namespace St
def jy:List UInt8:=[108,111,103,46,49]
def aq4:List UInt8:=[109,97,110,46,49]
def by1 (s:List UInt8):Bool:=(s==Mw.kCur||s==Mw.jk)||[Mn.kLog,Mn.kTab,Mn.kMan].any fun k=>(Mn.number s k).isSome
def isNone (S:Sd) (s:List UInt8):Bool:=(s==Mw.jk||s==aq4)||(s==jy&&(S.read s).1.length==0)
def fy4 (S:Sd):Bool:= !(S.list.any fun s=>by1 s&&!isNone S s)
def wipe:List (List UInt8)→Sd→Sd×Nat
 |[],S=>(S,0)
 |s::r,S=>if by1 s=true then (if (S.remove s).2=0 then wipe r (S.remove s).1 else S.remove s) else wipe r S
def first:Gs:=⟨[],⟨1,[],0,0,0,0⟩,0,false⟩
def create (S:Sd):Sd×Option Sv×Nat:=
 let a:=wipe S.list S
 if a.2≠0 then (a.1,none,a.2) else
 let b:=a.1.create jy
 if b.2≠0 then (b.1,none,b.2) else
 let c:=b.1.sync jy
 if c.2≠0 then (c.1,none,c.2) else
 let r:=Gw.rewrite c.1 first (Mn.name Mn.kMan 1)
 if r.2.2≠0 then (r.1,none,r.2.2) else (r.1,some ⟨r.2.1,jy,0,0,[],[],[],false⟩,0)
def number (S:Sd):Int:=max (Mn.greatest S.list Mn.kLog) (Mn.greatest S.list Mn.kTab)+1
def write (S:Sd) (l:List It):Sd×Nat:=
 if 1073741824 < number S then (S,65) else
 let s:=Mn.name Mn.kTab (number S)
 let a:=S.create s
 if a.2≠0 then a else
 let b:=a.1.append s (Tb.make l)
 if b.2≠0 then b else b.1.sync s
def fresh (S:Sd):Sd×Nat:=
 if 1073741824 < number S then (S,65) else
 let s:=Mn.name Mn.kLog (number S)
 let a:=S.create s
 if a.2≠0 then a else a.1.sync s
def saved (S:Sd) (V:Sv) (x:Ed):Sd×Sv×Nat:=
 let r:=Gw.save S V.M x
 (r.1,{ V with M:=r.2.1,only:=V.only||r.2.1.broken },r.2.2)
def turn (S:Sd) (V:Sv) (x:Ed) (D:Sv→Sv):Sd×Sv×Nat:=
 if S.ay.2≠0 then (S.ay.1,V,S.ay.2) else
 let r:=saved S.ay.1 V x
 if r.2.2=0∨r.2.1.only=true then (r.1,D r.2.1,r.2.2) else r
def live (V:Sv):List It:=V.mem.filter fun x=>decide (x∈V.st)
def turned (n:Int) (tabs:List ((Int×Int)×List (List It))) (V:Sv):Sv:={ V with nm:=Mn.name Mn.kLog n,sz:=0,ct:=0,mem:=[],tabs:=tabs }
def sw2 (S:Sd) (V:Sv) (add:List (Int×Int)) (tabs:List ((Int×Int)×List (List It))):Sd×Sv×Nat:=
 let b:=fresh S
 if b.2≠0 then (b.1,V,b.2) else
 let r:=turn b.1 V ⟨[],add,number S,0,0,0,0⟩ (turned (number S) tabs)
 if r.2.2=0 then ((r.1.remove (Mn.name Mn.kLog V.M.v.log)).1,r.2.1,0) else r
def flush (S:Sd) (V:Sv):Sd×Sv×Nat:=
 if V.only=true then (S,V,14) else
 if V.ct=0 then (S,V,0) else
 if 30≤V.tabs.length then (S,V,65) else
 if live V=[] then sw2 S V [] V.tabs else
 let a:=write S (live V)
 if a.2≠0 then (a.1,V,a.2) else sw2 a.1 V [(0,number S)] (V.tabs++[((0,number S),Tb.rows (live V))])
def apply (S:Sd) (V:Sv) (l:List It):Sd×Sv×Nat:=
 if V.only=true then (S,V,14) else
 if l=[]∨l.all It.ok=false then (S,V,1) else
 if 1000 < l.length then (S,V,2) else
 if 1500 < (joins V.st l).length then (S,V,2) else
 let a:=S.append V.nm (Lg.batch l)
 if a.2≠0 then (a.1,V,a.2) else (a.1,{ V with sz:=V.sz+(Lg.batch l).length,ct:=V.ct+1,mem:=l.foldl wput V.mem,st:=joins V.st l },0)
end St
end
section
open Go Go.RowKit
variable {B n:Nat} {w w':World} {A:Option Addr}
def qx (F:List Nat) (w:World) (p:World→Prop):Prop:=∀w',Chg F w w'→p w'
theorem qx.now {F:List Nat} {p:World→Prop} (h:qx F w p):p w:=h w (Chg.refl F w)
theorem qx.step {F G:List Nat} {p:World→Prop} (h:qx F w p) (c:Chg F w w') (hG:∀g∈G,g∈F∨w.heap.size≤g):qx G w' p:=fun _ k=>h _ (c.trans k hG)
theorem qx.below {F:List Nat} {p:World→Prop} (h:qx F w p) (c:Below w.heap.size w w'):qx F w' p:=h.step (Chg.of_below c F) fun _ h=>.inl h
theorem qx.and {F:List Nat} {p q:World→Prop} (h:qx F w p) (k:qx F w q):qx F w fun w=>p w∧q w:=fun w' c=>⟨h w' c,k w' c⟩
theorem qx.mono {F:List Nat} {p q:World→Prop} (h:qx F w p) (k:∀w,p w→q w):qx F w q:=fun w' c=>k w' (h w' c)
end
section
open Go Go.RowKit Go.Lib
theorem keep_any (K:Nat) (hF:∀args w,(callFunc K args).run Tryz.prog w=.ok (.enter K args) w) (capt:Array Value) (P:It→Bool) (A:Option Addr) (n c:Nat) (l:List It) (w:World) (hn:n≤1000000) (hr:Row w.heap.size w A n 5 (itc l))
  (hK:∀x w1,Below w.heap.size w w1→Calls Tryz.prog K (#[x.val] ++capt) w1 fun e w'=>e=.returned (.bool (P x))∧Below w1.heap.size w1 w'):
  Calls Tryz.prog 104 #[.slice A n c,.func (.func K) #[] capt] w (mv1 w (l.filter P)):=by
 have hnn:=hr.uz;obtain⟨i0,hi0,hz0,hz1,hz2⟩:=info_parts rq;have HF:=H_ hF;have HK:=H_ hK;clear hF hK;go_enter Tryz.func104,Tryz.ntmps104;go_wp2
 go_loopw [5,10] (fun v i wr=>∃(k q:Nat) (A2:Option Addr) (c2:Nat),k≤n∧v=.slice A2 q c2∧i=.int .i64 (k:Int)∧Hid (q=((l.take k).filter P).length∧wr.ownsRow w.heap.size 36 5 (.slice A2 q c2) q (itc ((l.take k).filter P)))∧Below w.heap.size w wr) (fun _ i _=>n - (intOf i).toNat)
 case atStart=>exact⟨0,0,none,0,t_ _,rfl,rfl,H_ ⟨rfl,E_ _ _ _ _⟩,Below.refl _ _⟩
 case round=>
  obtain⟨k,q,A2,c2,hk,rfl,rfl,HQ,hbl⟩:=hrel
  by_cases hlt:k < n
  ·obtain⟨p,hl,rfl,hbk,c0,c1,c2',c3,c4⟩:=(hr.below hbl).it hlt
   have hft:=ov1 (P:=P) hl;have hql:q≤1000000:=by
    have h1:=HQ.out.1;have h2:=ay_ P (l.take k);rw[u_]at h2;omega
   generalize l[k]=x at *;have hbV:=hbl.alloc hbl.size (.cells #[.int .i64 x.s,.int .i64 x.k,.int .u64 (x.t:Int),.int .u64 (x.v:Int),.int .i64 x.x] 36);have hbo:=b_ wr (.cells #[.int .i64 x.s,.int .i64 x.k,.int .u64 (x.t:Int),.int .u64 (x.v:Int),.int .i64 x.x] 36);have hbx:BoxO (wr.alloc (.cells #[.int .i64 x.s,.int .i64 x.k,.int .u64 (x.t:Int),.int .u64 (x.v:Int),.int .i64 x.x] 36)) 36 wr.heap.size x.cells:=BoxO.new wr #[.int .i64 x.s,.int .i64 x.k,.int .u64 (x.t:Int),.int .u64 (x.v:Int),.int .i64 x.x] 36;have hkk:=HK.out x _ hbV;unfold It.val at hkk;obtain⟨b,hb⟩:=n_ (P x);rw[←hb]at hkk hft;have HKK:=H_ hkk;have HFT:=H_ hft;clear hkk hft hb;go_wp2_with fail;rw[HF.out,Oper.upon_enter];refine HKK.out.mono ?_;rintro e w2 ⟨rfl,hb2⟩;have hb3:=az hbV (hb2);have ho3:=own_below (own_below HQ.out.2 hbo) hb2;have hbx2:=hbx.below hb2;generalize wr.heap.size=g at *
   cases b with
   |false=>
    have H3:=H_ (d_ (show q=((l.take (k+1)).filter P).length by rw[HFT.out];simpa using HQ.out.1) (show w2.ownsRow w.heap.size 36 5 (.slice A2 q c2) q (itc ((l.take (k+1)).filter P)) by rw[HFT.out];simpa using ho3));clear HKK HFT HQ ho3 hbx hbx2 hbo c0 c1 c2' c3 c4;go_wp2;go_roundw
    case rel=>exact⟨k+1,q,A2,c2,by omega,rfl,by go_num,H3.out,hb3⟩
    case measure=>simp[intOf];omega
   |true=>
    have b0:=hbx2.cell 0;have b1:=hbx2.cell 1;have b2:=hbx2.cell 2;have b3:=hbx2.cell 3;have b4:=hbx2.cell 4;simp only[It.cells,gE0,gE1]at b0 b1 b2 b3 b4;have hvb:BoxO (w2.alloc (.cells #[.int .i64 x.s,.int .i64 x.k,.int .u64 (x.t:Int),.int .u64 (x.v:Int),.int .i64 x.x] 36)) 36 w2.heap.size x.cells:=BoxO.new w2 #[.int .i64 x.s,.int .i64 x.k,.int .u64 (x.t:Int),.int .u64 (x.v:Int),.int .i64 x.x] 36;have hbA:=b_ w2 (.cells #[.int .i64 x.s,.int .i64 x.k,.int .u64 (x.t:Int),.int .u64 (x.v:Int),.int .i64 x.x] 36);have ho4:=own_below ho3 hbA;have hb4:=az hb3 hbA;have hrow:=lx1 hvb;have HX:=H_ (show itc ((l.take k).filter P)++x.cells=itc ((l.take (k+1)).filter P) by rw[HFT.out,if_pos rfl,qw];simp[itc]);have HQ1:=H_ (show q+1=((l.take (k+1)).filter P).length by rw[HFT.out,if_pos rfl,e_,←HQ.out.1];rfl);have HR:=H_ hrow;have HO:=H_ ho4;have HB:=H_ hb4;clear HKK HFT HQ ho3 ho4 hbx hbx2 hbo c0 c1 c2' c3 c4 hrow hvb hbA hb4;go_wp2_with (at_builtin;refine iy ?_);refine gz (jq rfl (.tmp 17) (.tmp 19) _ rfl w.heap.size 36 i0 _ 5 40 Tryz.underlying31 hi0 hz0 hz1 hz2 rfl (by omega) w HB.out HB.out.size _ q (itc ((l.take k).filter P)) rfl HO.out (w2.alloc (.cells #[.int .i64 x.s,.int .i64 x.k,.int .u64 (x.t:Int),.int .u64 (x.v:Int),.int .i64 x.x] 36)).heap.size _ 1 1 x.cells rfl HR.out (fun v hv=>xq [x] v (by simpa [itc] using hv)) (q+1) _ rfl HX.out (by unfold maxLen;omega) (by omega) ?_);intro A3 c3 w5 h1 h2 h3 h4 h5;have H5:=H_ (d_ HQ1.out h1);clear h1 h3 HQ1 HX HR HO HB b0 b1 b2 b3 b4;go_wp2;go_roundw
    case rel=>exact⟨k+1,q+1,A3,c3,by omega,rfl,by go_num,H5.out,h2⟩
    case measure=>simp[intOf];omega
  ·have hall:l.take k=l:=i_ (by omega)
   have hq:=HQ.out;rw[hall]at hq;obtain⟨A3,c3,hv,hqc,hqm,hlow⟩:=dw hq.2;injection hv with e1 e2 e3;subst e1 e3;have hits:Its w.heap.size wr A2 q c2 (l.filter P):=⟨Row.own hq.2,hqc,hqm,fun p hp=>(hlow p hp).1⟩;have HFF:=H_ (d_ hq.1 hits);clear hits hq hall hlow hqc hqm HQ;go_wp2;go_ret;exact⟨A2,q,c2,rfl,HFF.out.1,HFF.out.2,hbl⟩
end
section
open Go Go.RowKit Go.Lib
theorem tq4 (x y:It) (w:World):(Op.equal 36 (.agg #[.int .i64 x.s,.int .i64 x.k,.int .u64 (x.t:Int),.int .u64 (x.v:Int),.int .i64 x.x]) (.agg #[.int .i64 y.s,.int .i64 y.k,.int .u64 (y.t:Int),.int .u64 (y.v:Int),.int .i64 y.x])).run Tryz.prog w=.ok (decide (x=y)) w:=by
 have u3:=Tryz.underlying3;have a3:=Tryz.isAgg3;have z3:=Tryz.sizeOf3;have u4:=Tryz.underlying22;have a4:=Tryz.isAgg22;have z4:=Tryz.sizeOf22;have u5:=Tryz.underlying2;have a5:=Tryz.isAgg2;have z5:=Tryz.sizeOf2;have hS:Tryz.prog.underlying 36=some (.struct (Tryz.prog.fieldsOf 36)):=by kernel_rfl
 have hp:Tryz.prog.stoodInHeld 36=false:=by kernel_rfl
 have e0:(Op.equal 36 (.agg #[.int .i64 x.s,.int .i64 x.k,.int .u64 (x.t:Int),.int .u64 (x.v:Int),.int .i64 x.x]) (.agg #[.int .i64 y.s,.int .i64 y.k,.int .u64 (y.t:Int),.int .u64 (y.v:Int),.int .i64 y.x])).run Tryz.prog w=(Op.equalIn 10000 36 (.agg #[.int .i64 x.s,.int .i64 x.k,.int .u64 (x.t:Int),.int .u64 (x.v:Int),.int .i64 x.x]) (.agg #[.int .i64 y.s,.int .i64 y.k,.int .u64 (y.t:Int),.int .u64 (y.v:Int),.int .i64 y.x])).run Tryz.prog w:=by simp only[Op.equal,Op.maxDepth]
 rw[e0,show (10000:Nat)=9999+1 from rfl,run_equalIn_agg w 9999 36 _ _ hS hp];simp only[Program.fieldsOf,Tryz.underlying36];go_simp;have e:decide (x=y)=(decide (x.s=y.s) &&(decide (x.k=y.k) &&(decide (x.t=y.t) &&(decide (x.v=y.v) &&decide (x.x=y.x))))):=by
  rw[←a5_,←a5_,←a5_,←a5_];exact decide_eq_decide.2 ⟨fun h=>by subst h;simp,fun⟨h1,h2,h3,h4,h5⟩=>It.ext h1 h2 h3 h4 h5⟩
 rw[e]
 by_cases h1:x.s=y.s<;>by_cases h2:x.k=y.k<;>by_cases h3:x.t=y.t<;>by_cases h4:x.v=y.v<;>by_cases h5:x.x=y.x<;>simp[h1,h2,h3,h4,h5] <;>omega
theorem my1 (em:Bool) (x:It) (w:World):(Instr.checkKey em 10000 36 (.agg #[.int .i64 x.s,.int .i64 x.k,.int .u64 (x.t:Int),.int .u64 (x.v:Int),.int .i64 x.x])).run Tryz.prog w=.ok () w:=by
 kernel_rfl
theorem rv4 (x:It) (w:World):(Instr.keyThatStays (.agg #[.int .i64 x.s,.int .i64 x.k,.int .u64 (x.t:Int),.int .u64 (x.v:Int),.int .i64 x.x]) (.agg #[.int .i64 x.s,.int .i64 x.k,.int .u64 (x.t:Int),.int .u64 (x.v:Int),.int .i64 x.x])).run Tryz.prog w=.ok (.agg #[.int .i64 x.s,.int .i64 x.k,.int .u64 (x.t:Int),.int .u64 (x.v:Int),.int .i64 x.x]) w:=by
 simp[Instr.keyThatStays,Instr.sameBits]
theorem val_inj {x y:It} (h:x.val=y.val):x=y:=by
 unfold It.val at h;injection h with h;simp only[Array.mk.injEq,List.cons.injEq,Value.int.injEq,true_and,and_true]at h;obtain⟨h1,h2,h3,h4,h5⟩:=h;exact It.ext h1 h2 (by omega) (by omega) h5
theorem gk4 (x:It) (w:World):∀(es:List MapEntry) (i:Nat),(∀e∈es,∃y:It,e.key=y.val)→
  ((Instr.findAsking 36 x.val es i).run Tryz.prog w=.ok none w∧∀e∈es,e.key≠x.val)∨∃j e,(Instr.findAsking 36 x.val es i).run Tryz.prog w=.ok (some (i+j,e.val)) w∧es[j]?=some e∧e.key=x.val
 |[],i,_=>.inl ⟨by simp[Instr.findAsking],by simp⟩
 |a::es,i,h=>by
  obtain⟨y,hy⟩:=h a m_;have he:=tq4 x y w
  by_cases hxy:x=y
  ·subst hxy
   refine .inr ⟨0,a,?_,rfl,hy⟩;unfold It.val at hy ⊢;simp[Instr.findAsking,hy,he]
  ·rcases gk4 x w es (i+1) (fun e he=>h e (f_ _ he)) with ⟨h1,h2⟩|⟨j,e,h1,h2,h3⟩
   ·refine .inl ⟨?_,fun e hm=>?_⟩
    ·unfold It.val at hy h1 ⊢
     simp[Instr.findAsking,hy,he,hxy,h1]
    ·rcases g_.1 hm with rfl|hm
     ·intro e2
      rw[hy]at e2;exact hxy (val_inj e2).symm
     ·exact h2 e hm
   ·refine .inr ⟨j+1,e,?_,by simpa using h2,h3⟩
    unfold It.val at hy h1 ⊢;simp[Instr.findAsking,hy,he,hxy,h1];omega
theorem sv1 (x:It) (w:World) (es:List MapEntry) (h:∀e∈es,∃y:It,e.key=y.val):
  ((Instr.findKey 36 x.val es).run Tryz.prog w=.ok none w∧∀e∈es,e.key≠x.val)∨∃j e,(Instr.findKey 36 x.val es).run Tryz.prog w=.ok (some (j,e.val)) w∧es[j]?=some e∧e.key=x.val:=by
 have hS:Tryz.prog.underlying 36=some (.struct (Tryz.prog.fieldsOf 36)):=by kernel_rfl
 cases es with
 |nil=>
  refine .inl ⟨?_,by simp⟩;simp[Instr.findKey,run_underlying hS,Instr.findNow]
 |cons a es=>
  obtain⟨y,hy⟩:=h a m_;have hn:Instr.findNow (.struct (Tryz.prog.fieldsOf 36)) x.val (a::es) 0=none:=by
   unfold Instr.findNow;rw[hy];rfl
  have hf:(Instr.findKey 36 x.val (a::es)).run Tryz.prog w=(Instr.findAsking 36 x.val (a::es)).run Tryz.prog w:=by
   simp[Instr.findKey,run_underlying hS,hn]
  rw[hf]
  rcases gk4 x w (a::es) 0 h with h1|⟨j,e,h1,h2,h3⟩
  ·exact .inl h1
  ·exact .inr ⟨j,e,by simpa using h1,h2,h3⟩
def MpI (es:List MapEntry) (clock:Nat) (M:List It) (B:Nat):Prop:=
 (∀e∈es,(∃y∈M,e.key=y.val)∧(∃c:Nat,1≤c∧c≤B∧e.val=.int .i64 (c:Int))∧e.born < clock)∧∀y∈M,∃e∈es,e.key=y.val
def MpAt (w:World) (b:Nat) (M:List It) (B:Nat):Prop:=∃es clock,w.heap[b]?=some (.map es clock)∧MpI es.toList clock M B
def vx3 (w:World) (b:Nat) (M:List It) (x:It) (st B:Nat):Prop:=∃es clock,w.heap[b]?=some (.map es clock)∧
 (∀e∈es.toList,(∃y∈M++[x],e.key=y.val)∧e.born < clock)∧(∀y∈M++[x],∃e∈es.toList,e.key=y.val)∧(∃i:Nat,es.toList.findIdx? (fun e=>((e.born:Nat):Int)==((st:Nat):Int))=some i∧
  ∀(j:Nat) e,es.toList[j]?=some e→(∃c:Nat,c≤B∧e.val=.int .i64 (c:Int)∧(j≠i→1≤c)))
theorem MpAt.look {w:World} {b:Nat} {M:List It} {B:Nat} (h:MpAt w b M B) (x:It):∃c:Nat,c≤B∧(decide (0 < c)=decide (x∈M))∧(Instr.lookup 254 (.map (some b)) x.val false).run Tryz.prog w=.ok (.int .i64 (c:Int)) w:=by
 obtain⟨es,clock,hb,h1,h2⟩:=h;have ht:Tryz.prog.underlying 254=some (.map 36 3):=by kernel_rfl
 have hz:(zeroValue 3).run Tryz.prog w=.ok (.int .i64 0) w:=by kernel_rfl
 have hck:=my1 es.isEmpty x w
 rcases sv1 x w es.toList (fun e he=>let ⟨y,_,h⟩:=(h1 e he).1;⟨y,h⟩) with ⟨k1,k2⟩|⟨j,e,k1,k2,k3⟩
 ·refine⟨0,t_ _,?_,?_⟩
  ·have:x∉M:=fun hm=>by
    obtain⟨e,he,hk⟩:=h2 x hm;exact k2 e he hk
   simp[this]
  ·unfold It.val at k1 ⊢
   simp[Instr.lookup,run_underlying ht,MapKept.run_getObj_map hb,hck,k1,hz]
 ·have he:=p_ k2
  obtain⟨⟨y,hy,hk⟩,⟨c,c1,c2,c3⟩,_⟩:=h1 e he;refine⟨c,c2,?_,?_⟩
  ·have:x=y:=val_inj (k3.symm.trans hk)
   subst this;simp[hy];omega
  ·unfold It.val at k1 ⊢
   simp[Instr.lookup,run_underlying ht,MapKept.run_getObj_map hb,hck,k1,c3]
theorem vx3.look {w:World} {b:Nat} {M:List It} {x:It} {st B:Nat} (h:vx3 w b M x st B) (y:It):∃c:Nat,c≤B∧(Instr.lookup 254 (.map (some b)) y.val false).run Tryz.prog w=.ok (.int .i64 (c:Int)) w:=by
 obtain⟨es,clock,hb,h1,h2,i,h3,h4⟩:=h;have ht:Tryz.prog.underlying 254=some (.map 36 3):=by kernel_rfl
 have hz:(zeroValue 3).run Tryz.prog w=.ok (.int .i64 0) w:=by kernel_rfl
 have hck:=my1 es.isEmpty y w
 rcases sv1 y w es.toList (fun e he=>let ⟨y,_,h⟩:=(h1 e he).1;⟨y,h⟩) with ⟨k1,k2⟩|⟨j,e,k1,k2,k3⟩
 ·refine⟨0,t_ _,?_⟩
  unfold It.val at k1 ⊢;simp[Instr.lookup,run_underlying ht,MapKept.run_getObj_map hb,hck,k1,hz]
 ·obtain⟨c,c1,c2,_⟩:=h4 j e k2
  refine⟨c,c1,?_⟩;unfold It.val at k1 ⊢;simp[Instr.lookup,run_underlying ht,MapKept.run_getObj_map hb,hck,k1,c2]
abbrev putB (w:World) (b:Nat) (o:Obj):World:={ w with heap:=w.heap.setIfInBounds b o }
theorem jq1 {w:World} {b:Nat} {o:Obj} (hb:b < w.heap.size):(putB w b o).heap[b]?=some o:=by
 simp[putB,hb]
theorem fj1 (w:World) (b:Nat) (o:Obj):w.grownBy (putB w b o) (some b):=⟨rfl,rfl,rfl,by simp,fun k _ hk=>by
 simp only[putB];rw[Array.getElem?_setIfInBounds_ne (fun e=>hk (by rw[e]))]⟩
theorem MpAt.entry {w:World} {b:Nat} {M:List It} {B:Nat} (h:MpAt w b M B) (x:It):∃(v0:Value) (st:Nat) (o:Obj),(Instr.mapEntry 254 (.map (some b)) x.val).run Tryz.prog w=.ok (.tuple #[v0,.int .i64 (st:Int)]) (putB w b o)∧vx3 (putB w b o) b M x st B:=by
 obtain⟨es,clock,hb,h1,h2⟩:=h;have hlt:=(w_.1 hb).1;have ht:Tryz.prog.underlying 254=some (.map 36 3):=by kernel_rfl
 have hz:(zeroValue 3).run Tryz.prog w=.ok (.int .i64 0) w:=by kernel_rfl
 have hck:=my1 false x w;have hst:=rv4 x w
 rcases sv1 x w es.toList (fun e he=>let ⟨y,_,h⟩:=(h1 e he).1;⟨y,h⟩) with ⟨k1,k2⟩|⟨j,e,k1,k2,k3⟩
 ·refine⟨.int .i64 0,clock,.map (es.push ⟨x.val,.int .i64 0,clock⟩) (clock+1),?_,es.push ⟨x.val,.int .i64 0,clock⟩,clock+1,jq1 hlt,?_,?_,es.toList.length,?_,?_⟩
  ·unfold It.val at k1 ⊢
   simp[Instr.mapEntry,run_underlying ht,MapKept.run_getObj_map hb,hck,k1,hz,MapKept.run_setObj_map _ hb,goInt]
  ·intro e he
   simp only[a1_,q_,c_]at he
   rcases he with he|rfl
   ·obtain⟨⟨y,hy,hk⟩,_,hc⟩:=h1 e he
    exact⟨⟨y,s_ _ hy,hk⟩,by omega⟩
   ·exact⟨⟨x,by simp,rfl⟩,by simp⟩
  ·intro y hy
   simp only[a1_]
   rcases q_.1 hy with hy|hy
   ·obtain⟨e,he,hk⟩:=h2 y hy
    exact⟨e,s_ _ he,hk⟩
   ·rw[c_.1 hy]
    exact⟨_,k_ _ (c_.2 rfl),rfl⟩
  ·simp only[a1_]
   have hno:∀(l:List MapEntry),(∀e∈l,e.born < clock)→l.findIdx? (fun e=>((e.born:Nat):Int)==((clock:Nat):Int))=none:=fun l hl=>by
    rw[List.findIdx?_eq_none_iff];intro e he;have:=hl e he;simp;omega
   rw[List.findIdx?_append,hno _ (fun e he=>(h1 e he).2.2)];simp[List.findIdx?_cons]
  ·intro j e he
   simp only[a1_]at he
   rcases T_ j es.toList.length with hj|hj
   ·rw[J_ hj]at he
    obtain⟨_,⟨c,c1,c2,c3⟩,_⟩:=h1 e (p_ he);exact⟨c,c2,c3,fun _=>c1⟩
   ·rw[Y_ hj]at he
    obtain⟨hj0,he⟩:=G_.1 he;have hj1:j=es.toList.length:=by
     have:j - es.toList.length < 1:=hj0;omega
    subst hj1;simp only[bF_,aP_]at he;subst he;exact⟨0,t_ _,rfl,fun h=>absurd rfl h⟩
 ·have he:=p_ k2
  obtain⟨⟨y,hy,hk⟩,⟨c,c1,c2,c3⟩,_⟩:=h1 e he;have hxy:x=y:=val_inj (k3.symm.trans hk);subst hxy;have hej:es[j]?=some e:=by simpa using k2
  have hmod:es.modify j (fun e=>{ e with key:=x.val })=es:=by
   apply Array.ext';rw[bC_];apply List.ext_getElem?;intro i;rw[a9_]
   by_cases hij:j=i
   ·subst hij
    rw[k2];simp only[Option.map_eq_map,aK_,if_pos];rw[←k3]
   ·simp[hij]
  obtain⟨i,hi⟩:∃i,es.toList.findIdx? (fun e'=>((e'.born:Nat):Int)==((e.born:Nat):Int))=some i:=by
   cases hf:es.toList.findIdx? (fun e'=>((e'.born:Nat):Int)==((e.born:Nat):Int)) with
   |some i=>exact⟨i,rfl⟩
   |none=>
    rw[List.findIdx?_eq_none_iff]at hf;have:=hf e he;simp at this
  refine⟨.int .i64 (c:Int),e.born,.map es clock,?_,es,clock,jq1 hlt,?_,?_,i,hi,?_⟩
  ·unfold It.val at k1 k3 hmod hst ⊢
   simp[Instr.mapEntry,run_underlying ht,MapKept.run_getObj_map hb,hck,k1,hej,k3,hst,hmod,c3,MapKept.run_setObj_map _ hb,goInt]
  ·intro e' he'
   obtain⟨⟨y,hy,hk⟩,_,hc⟩:=h1 e' he';exact⟨⟨y,s_ _ hy,hk⟩,hc⟩
  ·intro y' hy'
   rcases q_.1 hy' with hy'|hy'
   ·exact h2 y' hy'
   ·rw[c_.1 hy']
    exact⟨e,he,k3⟩
  ·intro j' e' he'
   obtain⟨_,⟨c',c1',c2',c3'⟩,_⟩:=h1 e' (p_ he');exact⟨c',c2',c3',fun _=>c1'⟩
theorem vx3.store {w:World} {b:Nat} {M:List It} {x:It} {st B:Nat} (h:vx3 w b M x st B) (c:Nat) (hc1:1≤c) (hc2:c≤B+1):∃o:Obj,(Instr.entryStore 254 (.map (some b)) (.int .i64 (st:Int)) (.int .i64 (c:Int))).run Tryz.prog w=.ok () (putB w b o)∧MpAt (putB w b o) b (M++[x]) (B+1):=by
 obtain⟨es,clock,hb,h1,h2,i,h3,h4⟩:=h;have hlt:=(w_.1 hb).1;have hfi:es.findIdx? (fun e=>((e.born:Nat):Int)==((st:Nat):Int))=some i:=by
  have e1:es.findIdx? (fun e=>((e.born:Nat):Int)==((st:Nat):Int))=es.toList.findIdx? (fun e=>((e.born:Nat):Int)==((st:Nat):Int)):=by cases es;simp
  rw[e1];exact h3
 refine⟨.map (es.modify i fun e=>{ e with val:=.int .i64 (c:Int) }) clock,?_,es.modify i fun e=>{ e with val:=.int .i64 (c:Int) },clock,jq1 hlt,?_,?_⟩
 ·simp[Instr.entryStore,MapKept.run_getObj_map hb,asInt,asIntOf,hfi,MapKept.run_setObj_map _ hb]
 ·intro e he
  rw[bC_]at he;obtain⟨j,hj⟩:=br_ he;rw[a9_]at hj
  cases hjj:es.toList[j]? with
  |none=>rw[hjj]at hj;simp at hj
  |some e0=>
   rw[hjj]at hj;obtain⟨hk,hbn⟩:=h1 e0 (p_ hjj);obtain⟨c',d1,d2,d3⟩:=h4 j e0 hjj
   by_cases hij:i=j
   ·have h5:({ e0 with val:=.int .i64 (c:Int) }:MapEntry)=e:=by simpa [hij] using hj
    subst h5;exact⟨hk,⟨c,hc1,hc2,rfl⟩,hbn⟩
   ·have h5:e0=e:=by simpa [hij] using hj
    subst h5;exact⟨hk,⟨c',d3 (fun e=>hij e.symm),by omega,d2⟩,hbn⟩
 ·intro y hy
  obtain⟨e,he,hk⟩:=h2 y hy;obtain⟨j,hj⟩:=br_ he;rw[bC_]
  by_cases hij:i=j
  ·refine⟨{ e with val:=.int .i64 (c:Int) },?_,hk⟩
   apply p_ (i:=j);rw[a9_,hj];simp[hij]
  ·refine⟨e,?_,hk⟩
   apply p_ (i:=j);rw[a9_,hj];simp[hij]
end
end Go.Proofs.YthjdpplgfdihoaaGreatDoor
