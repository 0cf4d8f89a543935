/- Texts ManK, EditL, Views, RefV, RefA, Openers, FilesOpen, PlainRest, PlainRestB, PlainRestG, LawA, LawB, LawG, Edits in one. No conditions. -/
import Derived.Test.YthjdpplgfdihoaaGreatDoorBunAA
import Derived.Test.YthjdpplgfdihoaaGreatDoorBunAM
import Derived.Test.YthjdpplgfdihoaaGreatDoorBunAJ
import Derived.Test.YthjdpplgfdihoaaGreatDoorBunAL
import Derived.Test.YthjdpplgfdihoaaGreatDoorBunAD
import Derived.Test.YthjdpplgfdihoaaGreatDoorBunAG
import Derived.BigQuiet
import Derived.Deep.Slices
import Derived.Deep.Fields
import Derived.Lib.SmallJoins
import Derived.ChangeSame
import Derived.ChangeArms
import Derived.DataReads
import Derived.OpenShut
import Derived.Test.YthjdpplgfdihoaaGreatDoorBunAE

set_option linter.unusedSimpArgs false
set_option linter.unusedVariables false
set_option maxRecDepth 100000
set_option maxHeartbeats 16000000
namespace Go.Proofs.YthjdpplgfdihoaaGreatDoor
section
open Go Go.RowKit Go.Shelf
variable {P:Sl} {m:Nat} {X X1:Dw} {w w1 w2:World} {S S1:Sd} {M M1:Gs}
structure bx5 (P:Sl) (X:Dw) (w:World) (S:Sd) (M:Gs) (m:Nat) (w':World) (X':Dw):Prop where
 e:X'.d=X.d
 dm:Dm w' X' S
 man:GK w' m X.d M P
 row:Vrow w' X' m P M.v.files
 away:m∉X'.foot
 c:Chg X.foot w w'
 f:∀g∈X'.foot,g∈X.foot∨w.heap.size≤g
 new:w.heap.size≤m
theorem pk4 (hb:Below w.heap.size w w1) (hm:w.heap.size≤m) (k:Gst P m X w1 S1 M1 w2 X1):bx5 P X w S1 M1 m w2 X1:=
 ⟨k.acc.e,k.acc.dm,k.man,k.row,k.away,((Chg.of_below hb X.foot).trans k.acc.c (fun g hg=>by
  rcases List.mem_append.1 hg with h1|h1
  ·rw[List.mem_singleton.1 h1];exact .inr hm
  ·exact .inl h1)),fun g hg=>by
  rcases k.acc.f g hg with h1|h1
  ·exact .inl h1
  ·exact .inr (Nat.le_trans hb.size h1),hm⟩
theorem lw4 (v:Vw) (A:Option Addr) (n c:Nat) (hv:v.ok=true) (hn:n≤10000) (hnc:n≤c) (hcm:c≤maxLen) (hr:Row w.heap.size w A n 2 (dw v.files)) (hld:S.load≤1000000000000) (h:Dm w X S) (R:Sd×Gs×Nat) (hR:R=Gw.rewrite S ⟨[],v,0,false⟩ (Mn.name Mn.kMan 1)) (hR0:R.2.2=0):
  Calls Tryz.prog 152 #[.pointer (some ⟨X.d,0,none⟩),v.val A n c] w fun e w'=>∃P m X',e=.returned (.tuple #[.pointer (some ⟨m,0,none⟩),.int .i64 0])∧bx5 P X w R.1 R.2.1 m w' X':=by
 have HR:=Lib.hid hR;have HR0:=Lib.hid hR0;clear hR hR0;have hb0:Below w.heap.size w (w.alloc (.cells #[.int .i64 v.log,.slice A n c,.int .u64 (v.floor:Int),.int .u64 (v.cert:Int),.int .u64 (v.at_:Int),.int .u64 (v.lease:Int)] 86)):=(Below.refl _ _).alloc (Nat.le_refl _) _;have hbx:=BoxO.new w #[.int .i64 v.log,.slice A n c,.int .u64 (v.floor:Int),.int .u64 (v.cert:Int),.int .u64 (v.at_:Int),.int .u64 (v.lease:Int)] 86;generalize hV:w.alloc (.cells #[.int .i64 v.log,.slice A n c,.int .u64 (v.floor:Int),.int .u64 (v.cert:Int),.int .u64 (v.at_:Int),.int .u64 (v.lease:Int)] 86)=V at *;have hr1:=(hr.below hb0).up hb0.size;have hok:=py4 v A n c V (by omega) hnc hcm hr1;rw[hv]at hok;have how:=fun W hW=>tq3 v A n c W (by omega) hW;have x0:=hbx.cell 0;have x1:=hbx.cell 1;have x2:=hbx.cell 2;have x3:=hbx.cell 3;have x4:=hbx.cell 4;have x5:=hbx.cell 5;simp only[gE0,gE1]at x0 x1 x2 x3 x4 x5;unfold Vw.val at hok how ⊢;have HOW:=Lib.hid how;clear how;go_enter Tryz.func152,Tryz.ntmps152;go_wp2_with fail;refine hok.mono ?_;rintro e w1 ⟨rfl,hb1⟩;have hbx1:=hbx.below hb1;have x0:=hbx1.cell 0;have x1:=hbx1.cell 1;have x2:=hbx1.cell 2;have x3:=hbx1.cell 3;have x4:=hbx1.cell 4;have x5:=hbx1.cell 5;simp only[gE0,gE1]at x0 x1 x2 x3 x4 x5;have hb01:=az hb0 hb1;have how:=HOW.out w1 ((hr1.below hb1).up hb1.size);clear hok hb1 hbx hb0 HOW hr1 hr;go_wp2_with fail;refine how.mono ?_;rintro e w2 ⟨A2,c2,rfl,hfr,hb2⟩;have hb02:=az hb01 hb2;have hb3:=hb02.alloc hb02.size (.cells #[.pointer (some ⟨X.d,0,none⟩),.string ⟨#[]⟩,.int .i64 v.log,.slice A2 n c2,.int .u64 (v.floor:Int),.int .u64 (v.cert:Int),.int .u64 (v.at_:Int),.int .u64 (v.lease:Int),.int .i64 0,.int .u32 0,.int .i32 0,.int .u32 0,.bool false] 224);have hmk:GK (w2.alloc (.cells #[.pointer (some ⟨X.d,0,none⟩),.string ⟨#[]⟩,.int .i64 v.log,.slice A2 n c2,.int .u64 (v.floor:Int),.int .u64 (v.cert:Int),.int .u64 (v.at_:Int),.int .u64 (v.lease:Int),.int .i64 0,.int .u32 0,.int .i32 0,.int .u32 0,.bool false] 224)) w2.heap.size X.d ⟨[],v,0,false⟩ ⟨A2,n,c2⟩:=BoxO.new w2 #[.pointer (some ⟨X.d,0,none⟩),.string ⟨#[]⟩,.int .i64 v.log,.slice A2 n c2,.int .u64 (v.floor:Int),.int .u64 (v.cert:Int),.int .u64 (v.at_:Int),.int .u64 (v.lease:Int),.int .i64 0,.int .u32 0,.int .i32 0,.int .u32 0,.bool false] 224;have hm1:=hb02.size;have h3:=h.below hb3;have hvr:Vrow (w2.alloc (.cells #[.pointer (some ⟨X.d,0,none⟩),.string ⟨#[]⟩,.int .i64 v.log,.slice A2 n c2,.int .u64 (v.floor:Int),.int .u64 (v.cert:Int),.int .u64 (v.at_:Int),.int .u64 (v.lease:Int),.int .i64 0,.int .u32 0,.int .i32 0,.int .u32 0,.bool false] 224)) X w2.heap.size ⟨A2,n,c2⟩ v.files:=by
  refine⟨(hfr.row.alloc (Nat.le_refl _) _).up (by simp),hfr.nc,hfr.cm,hn,fun j hj a ha=>⟨?_,fun hm=>?_⟩⟩
  ·obtain⟨a',e,hb,_⟩:=hfr.row.cell j hj
   simp only at ha;rw[ha]at e;injection e with e;subst e;omega
  ·have h4:=hfr.low a ha
   have h5:=h.dk.lt _ hm;have:=hb01.size;omega
 generalize hV3:w2.alloc (.cells #[.pointer (some ⟨X.d,0,none⟩),.string ⟨#[]⟩,.int .i64 v.log,.slice A2 n c2,.int .u64 (v.floor:Int),.int .u64 (v.cert:Int),.int .u64 (v.at_:Int),.int .u64 (v.lease:Int),.int .i64 0,.int .u32 0,.int .i32 0,.int .u32 0,.bool false] 224)=V3 at *;have hnm:=name_any sMan (by decide) 1 (by omega) V3 h3.env;rw[ny1]at hnm;unfold sMan at hnm;have hst:Gst ⟨A2,n,c2⟩ w2.heap.size X V3 S ⟨[],v,0,false⟩ V3 X:=Gst.start h3 hmk hvr (fun hm=>by have:=h.dk.lt _ hm;omega) (Nat.le_trans h.env.base hm1);clear how hb2 hb02 hb01 hmk hbx1 x0 x1 x2 x3 x4 x5 hvr hfr;go_wp2_with fail;clear hV3;generalize w2.heap.size=m at *;refine hnm.mono ?_;rintro e w4 ⟨rfl,hb4⟩;have h4:=hst.below hb4;have hnl:=sj3 1;have hrw:=nw2 (str (Mn.name Mn.kMan 1)) (by rw[qx];exact hnl) hv hld h4.anew;rw[rq,←show R=_ from HR.out]at hrw;have HRW:=Lib.hid hrw;clear hrw hnm hb4;go_wp2_with fail;refine HRW.out.mono ?_;rintro e w5 ⟨rfl,P5,X5,h5,_⟩;rw[show R.2.2=_ from HR0.out];have HB:=Lib.hid (pk4 hb3 hm1 (h4.trans h5));clear h5 h4 hst h3 HRW;go_wp2;go_ret2;exact⟨_,_,_,rfl,HB.out⟩
end
section
open Go Go.RowKit
def tw3 (w:World) (P:Ed×Nat) (x:Ending) (w':World):Prop:=∃D m d A n c,x=.returned (.tuple #[P.1.val D m d A n c,.int .i64 (P.2:Int)])∧Row w'.heap.size w' D m 1 (uz P.1.drop)∧Row w'.heap.size w' A n 2 (dw P.1.add)∧
 (∀a,D=some a→w.heap.size≤a.block)∧(∀a,A=some a→w.heap.size≤a.block)∧Below w.heap.size w w'
structure Rst (w:World) (rb:Nat) (D:Option Addr) (m:Nat) (ds:List Int) (W:World) (ec:List Value) (A:Option Addr) (N c:Nat) (l:List UInt8) (ok:Bool):Prop where
 e:BoxO W 194 (w.heap.size+1) ec
 res:BoxO W 194 w.heap.size [.slice none 0 0,.slice none 0 0,.int .i64 0,.int .u64 0,.int .u64 0,.int .u64 0,.int .u64 0]
 rd:BoxO W 346 rb [.slice A N c,.bool ok]
 row:Row w.heap.size W A N 1 (bts l)
 nc:N≤c
 nb:N≤100000000
 dr:Row rb W D m 1 (uz ds)
 dl:∀a,D=some a→w.heap.size+1+1≤a.block
 bel:Below w.heap.size w W
 hi:w.heap.size+1+1≤rb
section
variable {w W W':World} {rb m N c:Nat} {D A:Option Addr} {ds:List Int} {ec:List Value} {l:List UInt8} {ok:Bool}
theorem Rst.lt (h:Rst w rb D m ds W ec A N c l ok):rb < W.heap.size:=h.rd.lt
theorem Rst.drew (h:Rst w rb D m ds W ec A N c l ok):Rst w rb D m ds W.drew ec A N c l ok:=⟨h.e.drew,h.res.drew,h.rd.drew,h.row.drew,h.nc,h.nb,h.dr.drew,h.dl,ak h.bel,h.hi⟩
theorem Rst.later (h:Rst w rb D m ds W ec A N c l ok) (hb:Below (rb+1) W W'):Rst w rb D m ds W' ec A N c l ok:=
 have h1:=h.hi
 ⟨(hb.block _ (by omega)).trans h.e,(hb.block _ (by omega)).trans h.res,(hb.block _ (by omega)).trans h.rd,h.row.below (hb.mono (by omega)),h.nc,h.nb,h.dr.below (hb.mono (by omega)),h.dl,h.bel.trans (hb.mono (by omega)),h.hi⟩
theorem Rst.below (h:Rst w rb D m ds W ec A N c l ok) (hb:Below W.heap.size W W'):Rst w rb D m ds W' ec A N c l ok:=h.later (hb.mono h.lt)
theorem Rst.store (h:Rst w rb D m ds W ec A N c l ok) (j:Nat) (v:Value):Rst w rb D m ds (W.setCell ⟨w.heap.size+1,j,none⟩ v) (ec.set j v) A N c l ok:=
 have h1:=h.hi;have hc:=pz W ⟨w.heap.size+1,j,none⟩ v;have hlt:=h.lt
 ⟨h.e.store j v,h.res.chg hc (by simp),h.rd.chg hc (by simp;omega),h.row.setCell (by simp) v,h.nc,h.nb,hc.row h.dr (Nat.le_of_lt hlt) (fun a ha hm=>by have:=h.dl a ha;simp at hm;omega),h.dl,h.bel.setCell (by simp) v,h.hi⟩
theorem Rst.take (h:Rst w rb D m ds W ec A N c l ok) (most:Nat) (hm:most < 18446744073709551616):
  Calls Tryz.prog 290 #[.pointer (some ⟨rb,0,none⟩),.int .u64 (most:Int)] W fun x W'=>∃A' N' c',x=.returned (.int .u64 ((Rd.take most (l,ok)).1:Int))∧Rst w rb D m ds W' ec A' N' c' (Rd.take most (l,ok)).2.1 (Rd.take most (l,ok)).2.2∧Chg [rb] W W':=by
 have h1:=h.hi;have h2:=h.nb;refine(wq3 w.heap.size rb (by omega) A N c l ok most W (by omega) h.nc hm h.rd h.row).mono ?_;rintro x W' ⟨A',N',c',rfl,hn1,hn2,hr,hb,hc⟩;exact⟨A',N',c',rfl,⟨h.e.chg hc (by simp;omega),h.res.chg hc (by simp;omega),hb,hr,hn1,by omega,h.dr.keep (fun p hp=>hc.cell (by have:=h.lt;omega) (by simp;omega)),h.dl,h.bel.trans (hc.below h.bel.size (by intro q hq;simp at hq;omega)),h.hi⟩,hc⟩
end
theorem ak4 {ns:List Nat} {k:Nat} (h:k < ns.length):ns.take (k+1)=ns.take k++[ns[k]]:=(List.take_append_getElem h).symm
def clamp (n:Nat):Int:=((min n 1073741825:Nat):Int)
theorem cq4 (A:Option Addr) (N c0:Nat) (b:List UInt8) (w:World) (hN:N≤100000000) (hNc:N≤c0) (hr:Row w.heap.size w A N 1 (bts b)):
  Calls Tryz.prog 230 #[.slice A N c0] w (tw3 w (Ed.read b)):=by
 obtain⟨i0,hi0,hz0,hz1,hz2⟩:=info_parts kx1;obtain⟨j0,hj0,hj1,hj2,hj3⟩:=info_parts ly2;have hbl:=hr.yz;have hul:=Pn.ux3 b 40;have hred:Ed.read b=if (Pn.ry b 40).2.2≠0 then (Ed.zero,3) else if Ed.good (Rd.tail ((Pn.ry b 40).1.map clamp) (Rd.files (Rd.take 40 (b.drop (Pn.ry b 40).2.1,true)).2 (Rd.take 40 (b.drop (Pn.ry b 40).2.1,true)).1).1 (Rd.files (Rd.take 40 (b.drop (Pn.ry b 40).2.1,true)).2 (Rd.take 40 (b.drop (Pn.ry b 40).2.1,true)).1).2)=true then ((Rd.tail ((Pn.ry b 40).1.map clamp) (Rd.files (Rd.take 40 (b.drop (Pn.ry b 40).2.1,true)).2 (Rd.take 40 (b.drop (Pn.ry b 40).2.1,true)).1).1 (Rd.files (Rd.take 40 (b.drop (Pn.ry b 40).2.1,true)).2 (Rd.take 40 (b.drop (Pn.ry b 40).2.1,true)).1).2).1,0) else (Ed.zero,3):=rfl
 have hun:=fun W (hW:Row W.heap.size W A N 1 (bts b))=>jy3 A N c0 b 40 W (by omega) hNc (by omega) hW;generalize Ed.read b=R at *;generalize Pn.ry b 40=U at *;obtain⟨us,sz,er⟩:=U;simp only at hred hul hun;have HRED:=Lib.hid hred;have HUN:=Lib.hid hun;have HR:=Lib.hid hr;clear hred hun hr;go_enter Tryz.func230,Tryz.ntmps230;go_wp2_with fail;have hb0:Below w.heap.size w ((w.alloc (.cells #[.slice none 0 0,.slice none 0 0,.int .i64 0,.int .u64 0,.int .u64 0,.int .u64 0,.int .u64 0] 194)).alloc (.cells #[.slice none 0 0,.slice none 0 0,.int .i64 0,.int .u64 0,.int .u64 0,.int .u64 0,.int .u64 0] 194)):=((Below.refl _ _).alloc (Nat.le_refl _) _).alloc (by simp) _;have hRes:=(BoxO.new w #[.slice none 0 0,.slice none 0 0,.int .i64 0,.int .u64 0,.int .u64 0,.int .u64 0,.int .u64 0] 194).alloc (.cells #[.slice none 0 0,.slice none 0 0,.int .i64 0,.int .u64 0,.int .u64 0,.int .u64 0,.int .u64 0] 194);have hE:=BoxO.new (w.alloc (.cells #[.slice none 0 0,.slice none 0 0,.int .i64 0,.int .u64 0,.int .u64 0,.int .u64 0,.int .u64 0] 194)) #[.slice none 0 0,.slice none 0 0,.int .i64 0,.int .u64 0,.int .u64 0,.int .u64 0,.int .u64 0] 194;simp only[World.size_alloc]at hE;have hsz:((w.alloc (.cells #[.slice none 0 0,.slice none 0 0,.int .i64 0,.int .u64 0,.int .u64 0,.int .u64 0,.int .u64 0] 194)).alloc (.cells #[.slice none 0 0,.slice none 0 0,.int .i64 0,.int .u64 0,.int .u64 0,.int .u64 0,.int .u64 0] 194)).heap.size=w.heap.size+1+1:=by simp
 generalize ((w.alloc (.cells #[.slice none 0 0,.slice none 0 0,.int .i64 0,.int .u64 0,.int .u64 0,.int .u64 0,.int .u64 0] 194)).alloc (.cells #[.slice none 0 0,.slice none 0 0,.int .i64 0,.int .u64 0,.int .u64 0,.int .u64 0,.int .u64 0] 194))=V at *;refine(HUN.out _ ((HR.out.below hb0).up hb0.size)).mono ?_;rintro x w1 ⟨A1,k1,c1,rfl,ho1,hb1⟩;have hE1:=hE.below hb1;have hRes1:=hRes.below hb1;have hbl1:=az hb0 hb1;have hsz1:w.heap.size+1+1≤w1.heap.size:=by have:=hb1.size;omega
 have hk1:=(Row.own ho1).yx4;have ho1':=own_base ho1 (Nat.le_of_eq hsz.symm);have hlow1:∀a,A1=some a→w.heap.size+1+1≤a.block:=fun a ha=>by
  obtain⟨_,_,hsl,_,_,hbs⟩:=ay ho1';injection hsl with h1 h2 h3;subst h1;exact(hbs a ha).1
 have hrow1:=Row.own ho1;clear hE hRes hb0 hb1 ho1 ho1' hsz HUN;have zero:∀(W:World),BoxO W 194 w.heap.size [.slice none 0 0,.slice none 0 0,.int .i64 0,.int .u64 0,.int .u64 0,.int .u64 0,.int .u64 0]→Below w.heap.size w W→R=(Ed.zero,3)→tw3 w R (.returned (.tuple #[.agg #[.slice none 0 0,.slice none 0 0,.int .i64 0,.int .u64 0,.int .u64 0,.int .u64 0,.int .u64 0],.int .i64 3])) ((((((((W.setCell ⟨w.heap.size,0,none⟩ (.slice none 0 0)).setCell ⟨w.heap.size,1,none⟩ (.slice none 0 0)).setCell ⟨w.heap.size,2,none⟩ (.int .i64 0)).setCell ⟨w.heap.size,3,none⟩ (.int .u64 0)).setCell ⟨w.heap.size,4,none⟩ (.int .u64 0)).setCell ⟨w.heap.size,5,none⟩ (.int .u64 0)).setCell ⟨w.heap.size,6,none⟩ (.int .u64 0))):=by
  intro W hB hbW hR;rw[hR];exact⟨none,0,0,none,0,0,rfl,Row.nil_,Row.nil_,(fun a ha=>by cases ha),(fun a ha=>by cases ha),((((((hbW.setCell (by simp) _).setCell (by simp) _).setCell (by simp) _).setCell (by simp) _).setCell (by simp) _).setCell (by simp) _).setCell (by simp) _⟩
 have HZR:=Lib.hid zero;clear zero
 by_cases her:er=0
 case neg=>
  have he3:((er:Int)==0)=false:=by simp;omega
  have he4:¬(er:Int)=0:=by omega
  have hR:R=(Ed.zero,3):=by rw[HRED.out,if_pos her]
  have HRR:=Lib.hid hR;have r0:=hRes1.cell 0;have r1:=hRes1.cell 1;have r2:=hRes1.cell 2;have r3:=hRes1.cell 3;have r4:=hRes1.cell 4;have r5:=hRes1.cell 5;have r6:=hRes1.cell 6;have y0:=hRes1.free 0;have y1:=hRes1.free 1;have y2:=hRes1.free 2;have y3:=hRes1.free 3;have y4:=hRes1.free 4;have y5:=hRes1.free 5;have y6:=hRes1.free 6;simp only[gE0,gE1]at r0 r1 r2 r3 r4 r5 r6;clear hR;go_wp2_with fail;refine bodyPost_ret (v:=.tuple #[.agg #[.slice none 0 0,.slice none 0 0,.int .i64 0,.int .u64 0,.int .u64 0,.int .u64 0,.int .u64 0],.int .i64 3]) (by simp[results,go_sem, *]) rfl ?_;exact HZR.out w1 hRes1 hbl1 HRR.out
 case pos=>
 subst her;obtain⟨hul1,hul2⟩:=hul rfl;have hred:=HRED.out;rw[if_neg (by simp)]at hred;have HRED2:=Lib.hid hred;rw[show ((0:Nat):Int)=0 from rfl];clear hul hred HRED;go_wp2_with fail
 go_loopw [23] (fun x wr=>∃(k:Nat) (D:Option Addr) (d:Nat),k≤k1∧x=.int .i64 (k:Int)∧BoxO wr 194 (w.heap.size+1) [.slice D k d,.slice none 0 0,.int .i64 0,.int .u64 0,.int .u64 0,.int .u64 0,.int .u64 0]∧wr.ownsRow w1.heap.size 3 1 (.slice D k d) k (uz ((us.take k).map clamp))∧Chg [w.heap.size+1] w1 wr) (fun x _=>k1 - (intOf x).toNat)
 case atStart=>exact⟨0,none,0,Nat.zero_le _,rfl,hE1,World.ownsRow_nil _ _ _ _,Chg.refl _ _⟩
 case round=>
  obtain⟨k,D,d,hk,rfl,hE,hown,hch⟩:=hrel;have hszr:=hch.size;have hltE:=hE.lt
  by_cases hlt:k < k1
  ·obtain⟨ua,hl,rfl,hub,huc⟩:=(hch.row hrow1 (Nat.le_refl _) (fun a ha h=>by have:=hlow1 a ha;simp at h;omega)).un hlt
   have htk:=ak4 hl;generalize us[k]=u at *;have HT:=Lib.hid htk;obtain⟨q,hq⟩:∃q:Nat,q=min u 1073741825:=⟨_,rfl⟩;have hqc:clamp u=(q:Int):=by rw[hq];rfl
   have hmin:min (u:Int) 1073741825=(q:Int):=by omega
   have hqi:IntKind.i64.wrap (q:Int)=(q:Int):=by rw[IntKind.wrap_i64];omega
   have HQ:=Lib.hid hqc;have hq2:q≤1073741825:=by omega
   have q0:=hE.cell 0;have z0:=hE.free 0;simp only[gE0]at q0;have hrw:=Row.new (n:=1) (size:=1) wr #[.int .i64 (q:Int)] 3 rfl;clear htk hl hq hqc;go_wp2_with (at_builtin;refine jq ?_);refine gy (lq rfl (.tmp 28) (.tmp 32) _ rfl w1.heap.size 3 j0 _ 1 8 Tryz.underlying48 hj0 hj1 hj2 hj3 rfl (by omega) (wr.alloc (.cells #[.int .i64 (q:Int)] 3)) (Below.refl _ _) (by simp;omega) (.slice D k d) k (uz ((us.take k).map clamp)) rfl (hown.alloc _) (wr.heap.size+1) _ 1 1 [.int .i64 (q:Int)] rfl hrw (by simp[Value.oneCell']) (k+1) _ rfl rfl (by unfold maxLen;omega) (by omega) ?_);intro A3 c3 w3 ho3 hb3 hg3 hc3 hm3;have hE3:BoxO w3 _ _ _:=(hb3.block _ (by omega)).trans (hE.alloc _);have hch3:Chg [w.heap.size+1] w1 w3:=(hch.alloc (.cells #[.int .i64 (q:Int)] 3)).trans (Chg.uy hg3 (F:=(Value.slice D k d).ownBlock.toList) (fun b hb=>by simp[hb])) (fun g hg=>.inr (by
    have:(Value.slice D k d).ownBlock=some g:=by simpa using hg
    exact(hown.lt g this).1))
   clear hE hown hch hb3 hg3 hrw q0 z0;have q0:=hE3.cell 0;have z0:=hE3.free 0;simp only[gE0]at q0;have hE4:=hE3.store 0 (.slice A3 (k+1) c3);simp only[List.set_cons_zero]at hE4;have hch4:=hch3.setCell (p:=⟨w.heap.size+1,0,none⟩) (.slice A3 (k+1) c3) (.inl (by simp));have ho4:=ny ho3 (pz w3 ⟨w.heap.size+1,0,none⟩ (.slice A3 (k+1) c3)) (fun g hg h=>by
    have:=(ho3.lt g hg).1;simp at h;omega)
   clear hE3 ho3 hch3;go_wp2_with fail;go_roundw
   case rel=>
    refine⟨k+1,A3,c3,by omega,by go_num,hE4,?_,hch4⟩;rw[HT.out,List.map_append,List.map_singleton,HQ.out];simpa [uz] using ho4
   case measure=>simp[intOf];omega
  ·obtain rfl:k1=k:=by omega
   have hus:us.take k1=us:=List.take_of_length_le (by omega);rw[hus]at hown;have hRes:=hRes1.chg hch (by simp);have hblr:=hbl1.trans (hch.below hbl1.size (by intro q hq;simp at hq;omega));have hlowD:∀a,D=some a→w.heap.size+1+1≤a.block:=fun a ha=>by
    obtain⟨_,_,hsl,_,_,hbs⟩:=ay hown;injection hsl with h1 h2 h3;subst h1;have:=(hbs a ha).1;omega
   have hszN:sz≤N:=by omega
   have hszc:sz≤c0:=by omega
   obtain⟨A0,hA0⟩:∃A0,(if c0=sz then A else Option.map (fun x=>x.add sz) A)=A0:=⟨_,rfl⟩;have hr0:=gk1 HR.out hszN (A':=A0) (fun hlt=>by rw[←hA0,if_neg (by omega)]);have hS0:Rst w wr.heap.size D k1 (us.map clamp) (wr.alloc (.cells #[.slice A0 (N - sz) (c0 - sz),.bool true] 346)) [.slice D k1 d,.slice none 0 0,.int .i64 0,.int .u64 0,.int .u64 0,.int .u64 0,.int .u64 0] A0 (N - sz) (c0 - sz) (b.drop sz) true:=
    ⟨hE.alloc _,hRes.alloc _,BoxO.new wr #[.slice A0 (N - sz) (c0 - sz),.bool true] 346,(hr0.below hblr).alloc hblr.size _,by omega,by omega,(Row.own hown).alloc (Nat.le_refl _) _,hlowD,hblr.alloc hblr.size _,by omega⟩
   have hltV:wr.heap.size < (wr.alloc (.cells #[.slice A0 (N - sz) (c0 - sz),.bool true] 346)).heap.size:=by simp
   clear hE hRes hown hr0 hblr hlowD hus hch HR hE1 hRes1 hbl1 hrow1 hlow1;have hj:(0:Int)≤(sz:Int):=by omega
   go_wp2_with fail;obtain⟨rb,hrb⟩:∃rb,rb=wr.heap.size:=⟨_,rfl⟩;simp only[←hrb]at hS0 hltV ⊢;generalize wr.alloc (.cells #[.slice A0 (N - sz) (c0 - sz),.bool true] 346)=V2 at *;have HRB:=Lib.hid hrb;clear hrb;refine(hS0.take 40 (by omega)).mono ?_;rintro x w2 ⟨A2,N2,c2,rfl,hS2,-⟩;clear hS0;obtain⟨K,hK⟩:∃K,K=(Rd.take 40 (b.drop sz,true)).1:=⟨_,rfl⟩;obtain⟨r0,hr0⟩:∃r0,r0=(Rd.take 40 (b.drop sz,true)).2:=⟨_,rfl⟩;have hK40:K≤40:=by rw[hK];exact Rd.jw1 _ _
   have hred:=HRED2.out;rw[←hK,←hr0]at hred;rw[←hr0]at hS2;have HRED3:=Lib.hid hred;simp only[←hK];clear hK hr0 hred HRED2;go_wp2_with fail
   go_loopw [43] (fun x wr=>∃(k:Nat) (A3:Option Addr) (d3:Nat) (A N c:_),k≤K∧x=.int .u64 (k:Int)∧Rst w rb D k1 (us.map clamp) wr [.slice D k1 d,.slice A3 k d3,.int .i64 0,.int .u64 0,.int .u64 0,.int .u64 0,.int .u64 0] A N c (Rd.files r0 k).2.1 (Rd.files r0 k).2.2∧wr.ownsRow (rb+1) 170 2 (.slice A3 k d3) k (dw (Rd.files r0 k).1)) (fun x _=>K - (intOf x).toNat)
   case atStart=>exact⟨0,none,0,A2,N2,c2,Nat.zero_le _,rfl,hS2,World.ownsRow_nil _ _ _ _⟩
   case round=>
    obtain⟨k,A3,d3,A4,N4,c4,hk,rfl,hS,hown⟩:=hrel;clear hS2
    by_cases hlt2:k < K
    ·have hfs:Rd.files r0 (k+1)=((Rd.files r0 k).1++[(((Rd.take 3 (Rd.files r0 k).2).1:Int),((Rd.take 1073741824 (Rd.take 3 (Rd.files r0 k).2).2).1:Int))],(Rd.take 1073741824 (Rd.take 3 (Rd.files r0 k).2).2).2):=rfl
     generalize Rd.files r0 k=P at *;obtain⟨fl,l,ok⟩:=P;simp only at hS hown hfs;have ht1:=hS.take 3 (by omega);have hl3:=Rd.jw1 3 (l,ok);generalize Rd.take 3 (l,ok)=P1 at *;obtain⟨lv,l1,ok1⟩:=P1;simp only at ht1 hl3 hfs;have hl30:=Rd.jw1 1073741824 (l1,ok1);obtain⟨P2,hP2⟩:∃P2,P2=Rd.take 1073741824 (l1,ok1):=⟨_,rfl⟩;rw[←hP2]at hfs hl30;have HP2:=Lib.hid hP2;clear hP2;obtain⟨nm,l2,ok2⟩:=P2;simp only at hfs hl30;have HFS:=Lib.hid hfs;clear hfs;have hlw:IntKind.i64.wrap (lv:Int)=(lv:Int):=by rw[IntKind.wrap_i64];omega
     have hnw:IntKind.i64.wrap (nm:Int)=(nm:Int):=by rw[IntKind.wrap_i64];omega
     go_wp2_with fail;refine ht1.mono ?_;rintro x w3 ⟨A5,N5,c5,rfl,hS3,hc3⟩;have ho3:=ny hown hc3 (fun g hg h=>by
      have:=(hown.lt g hg).1;simp at h;omega)
     have ht2:=hS3.drew.take 1073741824 (by omega);rw[show ((1073741824:Nat):Int)=1073741824 from rfl]at ht2;rw[←HP2.out]at ht2;simp only at ht2;have HO3:=Lib.hid ho3;have hcall:Calls Tryz.prog 290 #[.pointer (some ⟨rb,0,none⟩),.int .u64 1073741824] w3.drew fun x w4=>∃A6 N6 c6,x=.returned (.int .u64 (nm:Int))∧Rst w rb D k1 (us.map clamp) w4 [.slice D k1 d,.slice A3 k d3,.int .i64 0,.int .u64 0,.int .u64 0,.int .u64 0,.int .u64 0] A6 N6 c6 l2 ok2∧
       w4.cell? ⟨w.heap.size+1,1,none⟩=some (.slice A3 k d3)∧Hid (w4.ownsRow (rb+1) 170 2 (.slice A3 k d3) k (dw fl))∧rb < w4.heap.size:=by
      refine ht2.mono ?_;rintro x w4 ⟨A6,N6,c6,rfl,hS4,hc4⟩;refine⟨A6,N6,c6,rfl,hS4,?_,ny (G:=[rb]) HO3.out (show Chg [rb] w3 w4 from ⟨hc4.os,hc4.tape,hc4.output,hc4.size,hc4.block⟩) (fun g hg h=>by have:=(HO3.out.lt g hg).1;simp at h;omega),hS4.lt⟩;have e2:=hS4.e.cell 1;simpa only[gE0,gE1] using e2
     have HT2:=Lib.hid hcall;have e1:=hS3.e.cell 1;simp only[gE0,gE1]at e1;clear ht1 ht2 hS hown hc3 ho3 hcall;have hk41:k≤40:=by omega
     go_wp2_with fail
     go_region_law (first
      |(go_simp;(with_reducible refine(HT2.out).mono ?_);rintro x w4 ⟨A6,N6,c6,rfl,hS4,e2,HO4,hs4⟩;have e2u:=fun o=>(World.cell?_alloc_lt w4 o _ (World.block_lt_of_cell? w4 _ e2)).trans e2;go_simp)
      |(refine qy2 rfl (.tmp 49) (.tmp 55) _ rfl (rb+1) 170 i0 _ 2 16 Tryz.underlying84 hi0 hz0 hz1 hz2 rfl (by omega) (by simp;omega) (.slice A3 k d3) k (dw fl) rfl (HO4.out.alloc _) (w4.heap.size+1) _ 1 1 [.int .i64 (lv:Int),.int .i64 (nm:Int)] rfl (Row.new (n:=1) (size:=2) w4 #[.int .i64 (lv:Int),.int .i64 (nm:Int)] 170 rfl) (by simp[Value.oneCell']) (k+1) (dw (fl++[((lv:Int),(nm:Int))])) rfl (by simp[dw]) (by unfold maxLen;omega) (by omega) ?_;intro A7 d7 w5 ho5 hg5 _ _ _;have hS5:=(hS4.later ((Below.refl (rb+1) w4).alloc (by omega) (.cells #[.int .i64 (lv:Int),.int .i64 (nm:Int)] 170))).later ((Below.refl (rb+1) _).grown hg5 (by simp;omega) (fun g hg=>(HO4.out.lt g hg).1));have e5:=hS5.e.cell 1;have z5:=hS5.e.free 1;simp only[gE0,gE1]at e5;have HO5:=Lib.hid ho5;clear ho5 hg5))
     all_goals
      have hS6:=hS5.store 1 (.slice A7 (k+1) d7);simp only[List.set_cons_succ,List.set_cons_zero]at hS6;have ho6:=ny HO5.out (pz w5 ⟨w.heap.size+1,1,none⟩ (.slice A7 (k+1) d7)) (fun g hg h=>by
       have h1:=(HO5.out.lt g hg).1;have h2:=hS5.hi;simp at h;omega)
      clear HO4 HO3 hS5 hS4 hS3 HT2;go_wp2_with fail;go_roundw
      case rel=>exact⟨k+1,A7,d7,A6,N6,c6,by omega,by go_num,by rw[HFS.out];exact hS6,by rw[HFS.out];exact ho6⟩
      case measure=>simp[intOf];omega
    ·obtain rfl:K=k:=by omega
     have hRe:R=if Ed.good (Rd.tail (us.map clamp) (Rd.files r0 K).1 (Rd.files r0 K).2)=true then ((Rd.tail (us.map clamp) (Rd.files r0 K).1 (Rd.files r0 K).2).1,0) else (Ed.zero,3):=HRED3.out
     have hrowA:=Row.own hown;have hlowA:∀a,A3=some a→rb+1≤a.block:=fun a ha=>by
      obtain⟨_,_,hsl,_,_,hbs⟩:=ay hown;injection hsl with h1 h2 h3;subst h1;exact(hbs a ha).1
     have hfl:=hrowA.flen;generalize Rd.files r0 K=P at *;obtain⟨fl,l,ok⟩:=P;simp only at hS hrowA hRe hfl;have HROWA:=Lib.hid hrowA;clear hown hrowA HRED3 hA0;unfold Rd.tail at hRe;have hle0:=Rd.jw1 1073741824 (l,ok);have ht0:=hS.take 1073741824 (by omega);rw[show ((1073741824:Nat):Int)=1073741824 from rfl]at ht0;generalize Rd.take 1073741824 (l,ok)=P0 at *;obtain⟨lg,l1,ok1⟩:=P0;simp only at ht0 hle0 hRe;have HRE:=Lib.hid hRe;clear hRe;have hlw:IntKind.i64.wrap (lg:Int)=(lg:Int):=by rw[IntKind.wrap_i64];omega
     have hC0:=Chg.refl [rb,w.heap.size+1] wr;have HT0:=Lib.hid ht0;clear ht0 hS;go_wp2_with fail;refine HT0.out.mono ?_;rintro x w3 ⟨A5,N5,c5,rfl,hT0,hc0⟩;clear HT0;have hC1:=hC0.trans hc0 (by simp);have e2:=hT0.e.cell 2;have z2:=hT0.e.free 2;simp only[gE0,gE1]at e2;have hU0:=hT0.store 2 (.int .i64 (lg:Int));have hC1:=hC1.setCell (p:=⟨w.heap.size+1,2,none⟩) (.int .i64 (lg:Int)) (.inl (by simp));simp only[List.set_cons_succ,List.set_cons_zero]at hU0;have hle1:=Rd.jw1 281474976710656 (l1,ok1);have ht1:=hU0.take 281474976710656 (by omega);rw[show ((281474976710656:Nat):Int)=281474976710656 from rfl]at ht1;have hRe:=HRE.out;clear HRE;generalize Rd.take 281474976710656 (l1,ok1)=P1 at *;obtain⟨fo,l2,ok2⟩:=P1;simp only at ht1 hle1 hRe;have HRE:=Lib.hid hRe;clear hRe;have HT1:=Lib.hid ht1;clear ht1 hC0 hc0 hT0 hU0;go_wp2_with fail;refine HT1.out.mono ?_;rintro x w4 ⟨A6,N6,c6,rfl,hT1,hc1⟩;clear HT1;have hC2:=hC1.trans hc1 (by simp);clear e2 z2 hC1 hc1;have hle2:=Rd.jw1 281474976710656 (l2,ok2);have ht2:=hT1.take 281474976710656 (by omega);rw[show ((281474976710656:Nat):Int)=281474976710656 from rfl]at ht2;have hRe:=HRE.out;clear HRE;generalize Rd.take 281474976710656 (l2,ok2)=P2 at *;obtain⟨ce,l3,ok3⟩:=P2;simp only at ht2 hle2 hRe;have HRE:=Lib.hid hRe;clear hRe;have HT2:=Lib.hid ht2;clear ht2;go_wp2_with fail;refine HT2.out.mono ?_;rintro x w5 ⟨A7,N7,c7,rfl,hT2,hc2⟩;clear HT2 hT1;have hC3:=hC2.trans hc2 (by simp);have e3:=hT2.e.cell 3;have z3:=hT2.e.free 3;simp only[gE0,gE1]at e3;have e4:=hT2.e.cell 4;have z4:=hT2.e.free 4;simp only[gE0,gE1]at e4;have hU2:=(hT2.store 3 (.int .u64 (fo:Int))).store 4 (.int .u64 (ce:Int));have hC3:=(hC3.setCell (p:=⟨w.heap.size+1,3,none⟩) (.int .u64 (fo:Int)) (.inl (by simp))).setCell (p:=⟨w.heap.size+1,4,none⟩) (.int .u64 (ce:Int)) (.inl (by simp));simp only[List.set_cons_succ,List.set_cons_zero]at hU2;have hle3:=Rd.jw1 281474976710656 (l3,ok3);have ht3:=hU2.take 281474976710656 (by omega);rw[show ((281474976710656:Nat):Int)=281474976710656 from rfl]at ht3;have hRe:=HRE.out;clear HRE;generalize Rd.take 281474976710656 (l3,ok3)=P3 at *;obtain⟨at_,l4,ok4⟩:=P3;simp only at ht3 hle3 hRe;have HRE:=Lib.hid hRe;clear hRe;have HT3:=Lib.hid ht3;clear ht3 hC2 hc2 hT2 hU2;go_wp2_with fail;refine HT3.out.mono ?_;rintro x w6 ⟨A8,N8,c8,rfl,hT3,hc3⟩;clear HT3;have hC4:=hC3.trans hc3 (by simp);clear e3 e4 z3 z4 hC3 hc3;have hle4:=Rd.jw1 281474976710656 (l4,ok4);have ht4:=hT3.take 281474976710656 (by omega);rw[show ((281474976710656:Nat):Int)=281474976710656 from rfl]at ht4;have hRe:=HRE.out;clear HRE;generalize Rd.take 281474976710656 (l4,ok4)=P4 at *;obtain⟨le,l5,ok5⟩:=P4;simp only at ht4 hle4 hRe;have HRE:=Lib.hid hRe;clear hRe;have HT4:=Lib.hid ht4;clear ht4;go_wp2_with fail;refine HT4.out.mono ?_;rintro x w7 ⟨A9,N9,c9,rfl,hT4,hc4⟩;clear HT4 hT3;have hC5:=hC4.trans hc4 (by simp);have e5:=hT4.e.cell 5;have z5:=hT4.e.free 5;simp only[gE0,gE1]at e5;have e6:=hT4.e.cell 6;have z6:=hT4.e.free 6;simp only[gE0,gE1]at e6;have hU4:=(hT4.store 5 (.int .u64 (at_:Int))).store 6 (.int .u64 (le:Int));have hC6:=(hC5.setCell (p:=⟨w.heap.size+1,5,none⟩) (.int .u64 (at_:Int)) (.inl (by simp))).setCell (p:=⟨w.heap.size+1,6,none⟩) (.int .u64 (le:Int)) (.inl (by simp));simp only[List.set_cons_succ,List.set_cons_zero]at hU4;have hrA:=hC6.row HROWA.out (Nat.le_refl _) (fun a ha h=>by
      have h1:=hlowA a ha;have h2:=hU4.hi;simp at h;omega)
     have hrA:=hrA.up hC6.size;clear HROWA hC4 hC5 hC6 hc4 hT4;have r0:=hU4.rd.cell 0;have r1:=hU4.rd.cell 1;have s0:=hU4.res.cell 0;have s1:=hU4.res.cell 1;have s2:=hU4.res.cell 2;have s3:=hU4.res.cell 3;have s4:=hU4.res.cell 4;have s5:=hU4.res.cell 5;have s6:=hU4.res.cell 6;have y0:=hU4.res.free 0;have y1:=hU4.res.free 1;have y2:=hU4.res.free 2;have y3:=hU4.res.free 3;have y4:=hU4.res.free 4;have y5:=hU4.res.free 5;have y6:=hU4.res.free 6;have v0:=hU4.e.cell 0;have v1:=hU4.e.cell 1;have v2:=hU4.e.cell 2;have v3:=hU4.e.cell 3;have v4:=hU4.e.cell 4;have v5:=hU4.e.cell 5;have v6:=hU4.e.cell 6;simp only[gE0,gE1]at r0 r1 s0 s1 s2 s3 s4 s5 s6 v0 v1 v2 v3 v4 v5 v6;go_upto_region 19 with (fail)
     generalize ((w7.setCell ⟨w.heap.size+1,5,none⟩ (.int .u64 (at_:Int))).setCell ⟨w.heap.size+1,6,none⟩ (.int .u64 (le:Int)))=W at *;clear e5 e6 z5 z6;have hN9:=hU4.row.yz
     cases ok5 with
     |false=>
      have HB:=Lib.hid (HRE.out.trans (if_neg (by simp[Ed.good])));have hbz:=hU4.bel;have hrz:=hU4.res;clear HRE hrA v0 v1 v2 v3 v4 v5 v6 hU4;go_wp2_with fail;refine bodyPost_ret (v:=.tuple #[.agg #[.slice none 0 0,.slice none 0 0,.int .i64 0,.int .u64 0,.int .u64 0,.int .u64 0,.int .u64 0],.int .i64 3]) (by simp[results,go_sem, *]) rfl ?_;exact HZR.out W hrz hbz HB.out
     |true=>
      by_cases h9:N9=0
      case neg=>
       have hlt9:(0:Int) < (N9:Int):=by omega
       have HB:=Lib.hid (HRE.out.trans (if_neg (by
        have:l5.isEmpty=false:=by
         cases l5 with
         |nil=>simp at hN9;omega
         |cons a t=>rfl
        simp[Ed.good,this])))
       have hbz:=hU4.bel;have hrz:=hU4.res;clear HRE hrA v0 v1 v2 v3 v4 v5 v6 hU4;go_wp2_with fail;refine bodyPost_ret (v:=.tuple #[.agg #[.slice none 0 0,.slice none 0 0,.int .i64 0,.int .u64 0,.int .u64 0,.int .u64 0,.int .u64 0],.int .i64 3]) (by simp[results,go_sem, *]) rfl ?_;exact HZR.out W hrz hbz HB.out
      case pos=>
       subst h9;obtain rfl:=List.eq_nil_of_length_eq_zero hN9;have hmay:=zj2 ⟨us.map clamp,fl,(lg:Int),fo,ce,at_,le⟩ D k1 d A3 K d3 W (by omega) (by omega) (hU4.dr.up (Nat.le_of_lt hU4.lt)) hrA;unfold Ed.val at hmay;simp only at hmay
       cases hm:Ed.may ⟨us.map clamp,fl,(lg:Int),fo,ce,at_,le⟩ with
       |false=>
        rw[hm]at hmay;have HB:=Lib.hid (HRE.out.trans (if_neg (by simp[Ed.good,hm])));have HM:=Lib.hid hmay;clear HRE hrA hm hmay;go_wp2_with fail;refine HM.out.mono ?_;rintro x w8 ⟨rfl,hb8⟩;have hrz:=hU4.res.below hb8;have hbz:=az hU4.bel hb8;clear s0 s1 s2 s3 s4 s5 s6 y0 y1 y2 y3 y4 y5 y6 v0 v1 v2 v3 v4 v5 v6 hU4 hb8 r0 r1;have s0:=hrz.cell 0;have s1:=hrz.cell 1;have s2:=hrz.cell 2;have s3:=hrz.cell 3;have s4:=hrz.cell 4;have s5:=hrz.cell 5;have s6:=hrz.cell 6;have y0:=hrz.free 0;have y1:=hrz.free 1;have y2:=hrz.free 2;have y3:=hrz.free 3;have y4:=hrz.free 4;have y5:=hrz.free 5;have y6:=hrz.free 6;simp only[gE0,gE1]at s0 s1 s2 s3 s4 s5 s6;go_wp2_with fail;refine bodyPost_ret (v:=.tuple #[.agg #[.slice none 0 0,.slice none 0 0,.int .i64 0,.int .u64 0,.int .u64 0,.int .u64 0,.int .u64 0],.int .i64 3]) (by simp[results,go_sem, *]) rfl ?_;exact HZR.out w8 hrz hbz HB.out
       |true=>
        rw[hm]at hmay;have HB:=Lib.hid (HRE.out.trans (if_pos (by simp[Ed.good,hm])));have HM:=Lib.hid hmay;clear HRE hm hmay;go_wp2_with fail;refine HM.out.mono ?_;rintro x w8 ⟨rfl,hb8⟩;have hR8:=hU4.below hb8;have hrA8:=(hrA.below hb8).up hb8.size;clear s0 s1 s2 s3 s4 s5 s6 y0 y1 y2 y3 y4 y5 y6 v0 v1 v2 v3 v4 v5 v6 r0 r1;have s0:=hR8.res.cell 0;have s1:=hR8.res.cell 1;have s2:=hR8.res.cell 2;have s3:=hR8.res.cell 3;have s4:=hR8.res.cell 4;have s5:=hR8.res.cell 5;have s6:=hR8.res.cell 6;have y0:=hR8.res.free 0;have y1:=hR8.res.free 1;have y2:=hR8.res.free 2;have y3:=hR8.res.free 3;have y4:=hR8.res.free 4;have y5:=hR8.res.free 5;have y6:=hR8.res.free 6;have v0:=hR8.e.cell 0;have v1:=hR8.e.cell 1;have v2:=hR8.e.cell 2;have v3:=hR8.e.cell 3;have v4:=hR8.e.cell 4;have v5:=hR8.e.cell 5;have v6:=hR8.e.cell 6;simp only[gE0,gE1]at s0 s1 s2 s3 s4 s5 s6 v0 v1 v2 v3 v4 v5 v6;have hCz:=(((((((Chg.refl [w.heap.size] w8).setCell (p:=⟨w.heap.size,0,none⟩) (.slice D k1 d) (.inl (by simp))).setCell (p:=⟨w.heap.size,1,none⟩) (.slice A3 K d3) (.inl (by simp))).setCell (p:=⟨w.heap.size,2,none⟩) (.int .i64 (lg:Int)) (.inl (by simp))).setCell (p:=⟨w.heap.size,3,none⟩) (.int .u64 (fo:Int)) (.inl (by simp))).setCell (p:=⟨w.heap.size,4,none⟩) (.int .u64 (ce:Int)) (.inl (by simp))).setCell (p:=⟨w.heap.size,5,none⟩) (.int .u64 (at_:Int)) (.inl (by simp))).setCell (p:=⟨w.heap.size,6,none⟩) (.int .u64 (le:Int)) (.inl (by simp));have hbz:=hR8.bel;have hD8:=(hR8.dr.up (Nat.le_of_lt hR8.lt));have hDz:=(hCz.row hD8 (Nat.le_refl _) (fun a ha h=>by have:=hR8.dl a ha;simp at h;omega)).up hCz.size;have hAz:=(hCz.row hrA8 (Nat.le_refl _) (fun a ha h=>by have h1:=hlowA a ha;have h2:=hR8.hi;simp at h;omega)).up hCz.size;have hpost:tw3 w R (.returned (.tuple #[.agg #[.slice D k1 d,.slice A3 K d3,.int .i64 (lg:Int),.int .u64 (fo:Int),.int .u64 (ce:Int),.int .u64 (at_:Int),.int .u64 (le:Int)],.int .i64 0])) (((((((w8.setCell ⟨w.heap.size,0,none⟩ (.slice D k1 d)).setCell ⟨w.heap.size,1,none⟩ (.slice A3 K d3)).setCell ⟨w.heap.size,2,none⟩ (.int .i64 (lg:Int))).setCell ⟨w.heap.size,3,none⟩ (.int .u64 (fo:Int))).setCell ⟨w.heap.size,4,none⟩ (.int .u64 (ce:Int))).setCell ⟨w.heap.size,5,none⟩ (.int .u64 (at_:Int))).setCell ⟨w.heap.size,6,none⟩ (.int .u64 (le:Int))):=by
         rw[HB.out];refine⟨D,k1,d,A3,K,d3,rfl,hDz,hAz,fun a ha=>?_,fun a ha=>?_,hbz.trans (hCz.below hbz.size (by simp))⟩
         ·have:=hR8.dl a ha
          omega
         ·have h1:=hlowA a ha
          have h2:=hR8.hi;omega
        have HP:=Lib.hid hpost;clear hpost hCz hDz hAz hD8 hrA8 hbz hU4 hR8 hrA HB;go_wp2_with fail;refine bodyPost_ret (v:=.tuple #[.agg #[.slice D k1 d,.slice A3 K d3,.int .i64 (lg:Int),.int .u64 (fo:Int),.int .u64 (ce:Int),.int .u64 (at_:Int),.int .u64 (le:Int)],.int .i64 0]) (by simp[results,go_sem, *]) rfl ?_;exact HP.out
end
section
open Go Go.RowKit
namespace Fr
theorem yj1:∀(f:Nat) (l:List UInt8) (e:Nat) (ks:List Nat) (bs:List (List UInt8)),ks.length=bs.length→(splitF f l e ks bs).1.length=(splitF f l e ks bs).2.1.length
 |0,_,_,_,_,h=>h
 |f+1,l,e,ks,bs,h=>by
  rw[splitF];split
  ·split
   ·exact yj1 f l _ _ _ (by simp[h])
   ·exact h
  ·exact h
theorem take_len (l:List UInt8) (p:Nat):(take l p).2.1.length≤60000:=by
 unfold take;split
 ·simp
 ·split
  ·simp
  ·split
   ·simp
   ·split
    ·simp
    ·split
     ·simp
     ·simp only[List.length_take]
      omega
theorem cq2:∀(f:Nat) (l:List UInt8) (e:Nat) (ks:List Nat) (bs:List (List UInt8)),(∀b∈bs,b.length≤60000)→∀b∈(splitF f l e ks bs).2.1,b.length≤60000
 |0,_,_,_,_,h=>h
 |f+1,l,e,ks,bs,h=>by
  rw[splitF];split
  ·split
   ·refine cq2 f l _ _ _ (fun b hb=>?_)
    rcases List.mem_append.1 hb with h1|h1
    ·exact h b h1
    ·rw[List.mem_singleton.1 h1]
     exact take_len l e
   ·exact h
  ·exact h
theorem iv2 (l:List UInt8):(split l).1.length=(split l).2.1.length:=yj1 _ l 0 [] [] rfl
theorem vv2 (l:List UInt8):∀b∈(split l).2.1,b.length≤60000:=cq2 _ l 0 [] [] (fun b hb=>by cases hb)
theorem wj1:∀(f:Nat) (l:List UInt8) (e:Nat) (ks:List Nat) (bs:List (List UInt8)),e≤l.length→bs.length *12≤e→(splitF f l e ks bs).2.1.length *12≤l.length
 |0,l,e,ks,bs,h1,h2=>by rw[splitF];simp only;omega
 |f+1,l,e,ks,bs,h1,h2=>by
  rw[splitF];split
  ·split
   ·rename_i he
    obtain⟨h3,h4⟩:=zk1 he;exact wj1 f l _ _ _ h4 (by simp;omega)
   ·simp only;omega
  ·simp only;omega
theorem gk2 (l:List UInt8):(split l).2.1.length *12≤l.length:=wj1 _ l 0 [] [] (Nat.zero_le _) (by simp)
end Fr
def yx3 (w:World) (o:Option (Vw×Nat×Nat)) (x:Ending) (w':World):Prop:=Below w.heap.size w w'∧match o with
 |none=>x=.returned (.tuple #[Vw.none_.val none 0 0,.int .i64 0,.int .i64 0,.int .i64 9])
 |some (v,k,stop)=>∃A n c,x=.returned (.tuple #[v.val A n c,.int .i64 (k:Int),.int .i64 (stop:Int),.int .i64 0])∧n≤40∧ez1 w.heap.size w' A n c v.files
theorem Vw.vk3 {v u:Vw} {e:Ed} (h:v.app e=some u):u.files.length≤40:=by
 have:=Vw.bk5 h;simp only[Vw.ok,Bool.and_eq_true,decide_eq_true_eq]at this;omega
theorem xz3 (A:Option Addr) (N c0:Nat) (t:List UInt8) (w:World) (hN:N≤100000000) (hNc:N≤c0) (hc:c0≤maxLen) (hr:Row w.heap.size w A N 1 (bts t)):
  Calls Tryz.prog 155 #[.slice A N c0] w (yx3 w (Vw.views t)):=by
 have hsp:=fun W (hW:Row W.heap.size W A N 1 (bts t))=>ry2 A N c0 t W (by omega) hNc hc hW;have hsame:=Fr.iv2 t;have hlen:=Fr.vv2 t;have hmany:=Fr.gk2 t;have hbl:=hr.yz;have hview:Vw.views t=if ((Fr.split t).2.2.2≠0∧(Fr.split t).2.2.2≠4)∨(Fr.split t).2.1=[] then none else (Vw.steps ((Fr.split t).1.zip (Fr.split t).2.1)).map fun v=>(v,(Fr.split t).2.1.length,(Fr.split t).2.2.1):=rfl
 generalize Vw.views t=R at *;generalize Fr.split t=sp at *;obtain⟨ks,bs,stop,er⟩:=sp;simp only at hsp hsame hlen hview hmany;have HSP:=Lib.hid hsp;have HLEN:=Lib.hid hlen;have HVIEW:=Lib.hid hview;have HR:=Lib.hid hr;clear hsp hlen hview hr;go_enter Tryz.func155,Tryz.ntmps155;go_wp2_with fail;refine(HSP.out _ ((HR.out.alloc (Nat.le_refl _) _).up (by simp))).mono ?_;rintro e w1 ⟨kv,bv,rfl,hbods,hb1⟩;have hV0:=BoxO.new w #[.int .i64 0,.slice none 0 0,.int .u64 0,.int .u64 0,.int .u64 0,.int .u64 0] 86;have hV:=hV0.below hb1;have hb:=az ((Below.refl w.heap.size w).alloc (Nat.le_refl _) _) hb1;simp only[World.size_alloc]at hbods;clear hb1 hV0 HSP HR;have zero:∀(W:World),Below w.heap.size w W→R=none→yx3 w R (.returned (.tuple #[.agg #[.int .i64 0,.slice none 0 0,.int .u64 0,.int .u64 0,.int .u64 0,.int .u64 0],.int .i64 0,.int .i64 0,.int .i64 9])) ((((((W.setCell ⟨w.heap.size,0,none⟩ (.int .i64 0)).setCell ⟨w.heap.size,1,none⟩ (.slice none 0 0)).setCell ⟨w.heap.size,2,none⟩ (.int .u64 0)).setCell ⟨w.heap.size,3,none⟩ (.int .u64 0)).setCell ⟨w.heap.size,4,none⟩ (.int .u64 0)).setCell ⟨w.heap.size,5,none⟩ (.int .u64 0)):=by
  intro W hbW hR;rw[hR];exact⟨(((((hbW.setCell (by simp) _).setCell (by simp) _).setCell (by simp) _).setCell (by simp) _).setCell (by simp) _).setCell (by simp) _,rfl⟩
 have HZ:=Lib.hid zero;clear zero;obtain⟨vs,hvs,-⟩:=hbods.row;obtain⟨Ak,kc,hkv,-⟩:=ay hbods.kinds;obtain⟨Ab,bc,hbv,-⟩:=ay hvs;subst hkv hbv;rw[hsame]at hbods ⊢;obtain⟨n,hn⟩:∃n,bs.length=n:=⟨_,rfl⟩;rw[hn]at hbods hmany ⊢;have hnN:n *12≤N:=by omega
 clear hvs;have v0:=hV.cell 0;have v1:=hV.cell 1;have v2:=hV.cell 2;have v3:=hV.cell 3;have v4:=hV.cell 4;have v5:=hV.cell 5;have y0:=hV.free 0;have y1:=hV.free 1;have y2:=hV.free 2;have y3:=hV.free 3;have y4:=hV.free 4;have y5:=hV.free 5;simp only[gE0,gE1]at v0 v1 v2 v3 v4 v5
 by_cases her:er≠0∧er≠4
 ·have e1:((er:Int)==0)=false:=by simp;omega
  have e2:((er:Int)==4)=false:=by simp;omega
  have HB:=Lib.hid (HVIEW.out.trans (if_pos (.inl her)));clear her hbods HVIEW HLEN;go_wp2;refine bodyPost_ret (v:=.tuple #[.agg #[.int .i64 0,.slice none 0 0,.int .u64 0,.int .u64 0,.int .u64 0,.int .u64 0],.int .i64 0,.int .i64 0,.int .i64 9]) (by simp[results,go_sem, *]) rfl ?_;exact HZ.out w1 hb HB.out
 by_cases hn0:n=0
 ·subst hn0
  have HB:=Lib.hid (HVIEW.out.trans (if_pos (.inr (List.eq_nil_of_length_eq_zero hn))));clear hbods HVIEW HLEN;have her':er=0∨er=4:=by omega
  rcases her' with rfl|rfl
  all_goals
   go_wp2;refine bodyPost_ret (v:=.tuple #[.agg #[.int .i64 0,.slice none 0 0,.int .u64 0,.int .u64 0,.int .u64 0,.int .u64 0],.int .i64 0,.int .i64 0,.int .i64 9]) (by simp[results,go_sem, *]) rfl ?_;exact HZ.out w1 hb HB.out
 have hRv:=HVIEW.out.trans (if_neg (by
  simp only[not_or];exact⟨her,fun e=>hn0 (by rw[←hn,e];rfl)⟩))
 obtain⟨Z,hZ⟩:∃Z,Z=ks.zip bs:=⟨_,rfl⟩;rw[←hZ,hn]at hRv;have hZn:Z.length=n:=by rw[hZ,List.length_zip];omega
 obtain⟨gk,gb,kc',bc',ek,eb⟩:=wj2 hbods hsame (by omega);rw[hn]at ek eb;injection ek with ek _ ek2;injection eb with eb _ eb2;subst ek ek2 eb eb2;have her':er=0∨er=4:=by omega
 have hnz:((n:Int)==0)=false:=by simp;omega
 have HRV:=Lib.hid hRv;have HZZ:=Lib.hid hZ;clear hRv hZ HVIEW her v0 v1 v2 v3 v4 v5 y0 y1 y2 y3 y4 y5
 rcases her' with rfl|rfl
 all_goals
  go_wp2
  go_loopw [4,35] (fun st i wr=>∃(k:Nat) (v:Vw) (A1:Option Addr) (m1 c1:Nat),k≤n∧st=.int .i64 (stop:Int)∧i=.int .i64 (k:Int)∧m1≤40∧BoxO wr 86 w.heap.size (v.cells A1 m1 c1)∧ez1 (w.heap.size+1) wr A1 m1 c1 v.files∧Hid (Vw.steps (Z.take k)=some v)∧Chg [w.heap.size] w1 wr) (fun _ i _=>n - (intOf i).toNat)
  case atStart=>exact⟨0,Vw.none_,none,0,0,Nat.zero_le _,rfl,rfl,by omega,hV,⟨Row.nil_,Nat.le_refl _,Nat.zero_le _,fun a h=>by cases h⟩,Lib.hid rfl,Chg.refl _ _⟩
  case round=>
   obtain⟨k,v,A1,m1,c1,hk,rfl,rfl,hm1,hBx,hfr,hst,hchg⟩:=hrel;have hbodr:=hbods.chg hchg (by omega)
   by_cases hlt:k < n
   ·obtain⟨x,Ab,Mb,cb,hxk,d1,d2,hMb,hrow⟩:=vw4 hbodr hsame (k:=k) (by omega)
    have hkl:k < bs.length:=by omega
    have hzk:Z[k]'(by omega)=(x,bs[k]):=by
     have hx:=List.getElem?_eq_some_iff.1 hxk;simp only[HZZ.out,List.getElem_zip,hx.2]
    have hstep:=Vw.mv3 (l:=Z) (k:=k) (by omega);rw[hzk,hst.out]at hstep;have hbad:Vw.step (some v) (x,bs[k])=none→R=none:=fun h=>by
     rw[HRV.out,Vw.qw3 (hstep.trans h)];rfl
    have hlen1:=HLEN.out bs[k] (List.getElem_mem hkl);have hMl:=hrow.yz;have hstp:∀(P:Ed×Nat),P=Ed.read bs[k]→Vw.step (some v) (x,bs[k])=if P.2=0∧x=6 then v.app P.1 else none:=fun P hP=>by subst hP;rfl
    have hrd:=cq4 Ab Mb cb bs[k] wr (by omega) hMb hrow;have hmay:=@Ed.nj4 bs[k];generalize Ed.read bs[k]=P at *;obtain⟨ee,re⟩:=P;have hsp:=hstp _ rfl;rw[hsp]at hbad hstep;simp only at hbad hstep;have HBAD:=Lib.hid hbad;have HSTEP:=Lib.hid hstep;clear hst hxk hzk hstp hsp hbad hstep hlen1 hMl hrow hkl HLEN;go_wp2_with fail;refine hrd.mono ?_;rintro e w2 ⟨Dd,md,dd,Aa,na,ca,rfl,hrD,hrA,-,-,hb2⟩;simp only at hrD hrA;unfold Ed.val;simp only;have hbE:=(Below.refl w2.heap.size w2).alloc (Nat.le_refl _) (.cells #[.slice Dd md dd,.slice Aa na ca,.int .i64 ee.log,.int .u64 (ee.floor:Int),.int .u64 (ee.cert:Int),.int .u64 (ee.at_:Int),.int .u64 (ee.lease:Int)] 194);have hbx:=BoxO.new w2 #[.slice Dd md dd,.slice Aa na ca,.int .i64 ee.log,.int .u64 (ee.floor:Int),.int .u64 (ee.cert:Int),.int .u64 (ee.at_:Int),.int .u64 (ee.lease:Int)] 194;simp only at hbx;have hb2E:=az hb2 hbE;have hBE:=hBx.below hb2E;have hfrE:=hfr.below hb2E;have hrDE:=(hrD.below hbE).up hbE.size;have hrAE:=(hrA.below hbE).up hbE.size;have hcE:Chg [w.heap.size] w1 (w2.alloc (.cells #[.slice Dd md dd,.slice Aa na ca,.int .i64 ee.log,.int .u64 (ee.floor:Int),.int .u64 (ee.cert:Int),.int .u64 (ee.at_:Int),.int .u64 (ee.lease:Int)] 194)):=hchg.trans (Chg.of_below hb2E []) (fun g hg=>by cases hg);have hbwE:=hb.trans (hcE.below hb.size (by simp));have hk2:(w2.alloc (.cells #[.slice Dd md dd,.slice Aa na ca,.int .i64 ee.log,.int .u64 (ee.floor:Int),.int .u64 (ee.cert:Int),.int .u64 (ee.at_:Int),.int .u64 (ee.lease:Int)] 194)).cell? ⟨gk,k,none⟩=some (.int .i64 (x:Int)):=(World.cell?_of_block (hb2E.block gk (lt_of_cell d1))).trans d1;go_upto_region 8 with (fail)
    generalize w2.alloc (.cells #[.slice Dd md dd,.slice Aa na ca,.int .i64 ee.log,.int .u64 (ee.floor:Int),.int .u64 (ee.cert:Int),.int .u64 (ee.at_:Int),.int .u64 (ee.lease:Int)] 194)=VE at *;generalize w2.heap.size=ge at *;clear d1 d2 hb2 hb2E hbE hBx hchg hbodr hMb hrd hfr hrD hrA;have hgk2:=lt_of_cell hk2;have o0:=hBE.cell 0;have z0:=hBE.free 0;have o1:=hBE.cell 1;have z1:=hBE.free 1;have o2:=hBE.cell 2;have z2:=hBE.free 2;have o3:=hBE.cell 3;have z3:=hBE.free 3;have o4:=hBE.cell 4;have z4:=hBE.free 4;have o5:=hBE.cell 5;have z5:=hBE.free 5;simp only[Vw.cells,gE0,gE1]at o0 o1 o2 o3 o4 o5;have b0:=hbx.cell 0;have b1:=hbx.cell 1;have b2:=hbx.cell 2;have b3:=hbx.cell 3;have b4:=hbx.cell 4;have b5:=hbx.cell 5;have b6:=hbx.cell 6;simp only[gE0,gE1]at b0 b1 b2 b3 b4 b5 b6
    by_cases hre:re=0
    case neg=>
     have e1:((re:Int)==0)=false:=by simp;omega
     have HB:=Lib.hid (HBAD.out (if_neg (fun h=>hre h.1)));clear HSTEP HBAD hre hrDE hrAE hcE hBE hfrE;go_wp2;refine bodyPost_ret (v:=.tuple #[.agg #[.int .i64 0,.slice none 0 0,.int .u64 0,.int .u64 0,.int .u64 0,.int .u64 0],.int .i64 0,.int .i64 0,.int .i64 9]) (by simp[results,go_sem, *]) rfl ?_;exact HZ.out VE hbwE HB.out
    subst hre
    by_cases hx6:x=6
    case neg=>
     have e1:((x:Int)==6)=false:=by simp;omega
     have HB:=Lib.hid (HBAD.out (if_neg (fun h=>hx6 h.2)));clear HSTEP HBAD hx6 hrDE hrAE hcE hBE hfrE;go_wp2;refine bodyPost_ret (v:=.tuple #[.agg #[.int .i64 0,.slice none 0 0,.int .u64 0,.int .u64 0,.int .u64 0,.int .u64 0],.int .i64 0,.int .i64 0,.int .i64 9]) (by simp[results,go_sem, *]) rfl ?_;exact HZ.out VE hbwE HB.out
    subst hx6;simp only[and_self,if_true]at HBAD HSTEP;have hm:=av2 (hmay rfl);have hdl:=hrDE.ilen;have hal:=hrAE.flen;have hmd:md≤40:=by omega
    have hna:na≤40:=by omega
    clear hm hdl hal hmay;have hap:=ow2 v A1 m1 c1 ee Dd md dd Aa na ca VE (by omega) (by omega) (by omega) hfrE.row hrDE hrAE;unfold Ed.val Vw.val at hap
    cases hva:v.app ee with
    |none=>
     rw[hva]at hap;have HB:=Lib.hid (HBAD.out hva);have HAP:=Lib.hid hap;clear hap hva HBAD HSTEP hfrE hrAE hrDE hcE;go_wp2_with fail;refine HAP.out.mono ?_;rintro e w3 ⟨hb3,hx⟩;simp only[Vw.none_,Vw.val]at hx;subst hx;have hV3:=(az hbwE hb3).alloc (az hbwE hb3).size (.cells #[.int .i64 0,.slice none 0 0,.int .u64 0,.int .u64 0,.int .u64 0,.int .u64 0] 86);have hB3:=(hBE.below hb3).alloc (.cells #[.int .i64 0,.slice none 0 0,.int .u64 0,.int .u64 0,.int .u64 0,.int .u64 0] 86);go_upto_region 11 with (fail)
     generalize w3.alloc (.cells #[.int .i64 0,.slice none 0 0,.int .u64 0,.int .u64 0,.int .u64 0,.int .u64 0] 86)=V3 at *;clear hbwE hBE hb3 o0 o1 o2 o3 o4 o5 z0 z1 z2 z3 z4 z5 b0 b1 b2 b3 b4 b5 b6;have o0:=hB3.cell 0;have z0:=hB3.free 0;have o1:=hB3.cell 1;have z1:=hB3.free 1;have o2:=hB3.cell 2;have z2:=hB3.free 2;have o3:=hB3.cell 3;have z3:=hB3.free 3;have o4:=hB3.cell 4;have z4:=hB3.free 4;have o5:=hB3.cell 5;have z5:=hB3.free 5;simp only[Vw.cells,gE0,gE1]at o0 o1 o2 o3 o4 o5;clear hB3;go_wp2;refine bodyPost_ret (v:=.tuple #[.agg #[.int .i64 0,.slice none 0 0,.int .u64 0,.int .u64 0,.int .u64 0,.int .u64 0],.int .i64 0,.int .i64 0,.int .i64 9]) (by simp[results,go_sem, *]) rfl ?_;exact HZ.out V3 hV3 HB.out
    |some u=>
     have hu40:=Vw.vk3 hva;rw[hva]at hap HSTEP;have HAP:=Lib.hid hap;clear hap hva HBAD hrAE hrDE;go_wp2_with fail;refine HAP.out.mono ?_;rintro e w3 ⟨hb3,A3,n3,c3,rfl,hfr3⟩;unfold Vw.val;have hB3:=(hBE.below hb3).alloc (.cells #[.int .i64 u.log,.slice A3 n3 c3,.int .u64 (u.floor:Int),.int .u64 (u.cert:Int),.int .u64 (u.at_:Int),.int .u64 (u.lease:Int)] 86);have hc3:=(hcE.trans (Chg.of_below hb3 []) (fun g hg=>by cases hg)).alloc (.cells #[.int .i64 u.log,.slice A3 n3 c3,.int .u64 (u.floor:Int),.int .u64 (u.cert:Int),.int .u64 (u.at_:Int),.int .u64 (u.lease:Int)] 86);have hbxu:=BoxO.new w3 #[.int .i64 u.log,.slice A3 n3 c3,.int .u64 (u.floor:Int),.int .u64 (u.cert:Int),.int .u64 (u.at_:Int),.int .u64 (u.lease:Int)] 86;simp only at hbxu;have hfr4:=(hfr3.base hbwE.size).below ((Below.refl w3.heap.size w3).alloc (Nat.le_refl _) (.cells #[.int .i64 u.log,.slice A3 n3 c3,.int .u64 (u.floor:Int),.int .u64 (u.cert:Int),.int .u64 (u.at_:Int),.int .u64 (u.lease:Int)] 86));have hlow4:=fun a ha=>hfr3.low a ha;have hltE:=hBE.lt;have hlt3:=hb3.size;go_upto_region 11 with (fail)
     generalize w3.alloc (.cells #[.int .i64 u.log,.slice A3 n3 c3,.int .u64 (u.floor:Int),.int .u64 (u.cert:Int),.int .u64 (u.at_:Int),.int .u64 (u.lease:Int)] 86)=V3 at *;generalize w3.heap.size=gu at *;clear hbwE hBE hb3 hcE hfr3 o0 o1 o2 o3 o4 o5 z0 z1 z2 z3 z4 z5 b0 b1 b2 b3 b4 b5 b6;have o0:=hB3.cell 0;have z0:=hB3.free 0;have o1:=hB3.cell 1;have z1:=hB3.free 1;have o2:=hB3.cell 2;have z2:=hB3.free 2;have o3:=hB3.cell 3;have z3:=hB3.free 3;have o4:=hB3.cell 4;have z4:=hB3.free 4;have o5:=hB3.cell 5;have z5:=hB3.free 5;simp only[Vw.cells,gE0,gE1]at o0 o1 o2 o3 o4 o5;have u0:=hbxu.cell 0;have u1:=hbxu.cell 1;have u2:=hbxu.cell 2;have u3:=hbxu.cell 3;have u4:=hbxu.cell 4;have u5:=hbxu.cell 5;simp only[gE0,gE1]at u0 u1 u2 u3 u4 u5;have hBz:=((((((hB3.store 0 (.int .i64 u.log)).store 1 (.slice A3 n3 c3)).store 2 (.int .u64 (u.floor:Int))).store 3 (.int .u64 (u.cert:Int))).store 4 (.int .u64 (u.at_:Int))).store 5 (.int .u64 (u.lease:Int)));have hCz:=((((((Chg.refl [w.heap.size] V3).setCell (p:=⟨w.heap.size,0,none⟩) (.int .i64 u.log) (.inl (by simp))).setCell (p:=⟨w.heap.size,1,none⟩) (.slice A3 n3 c3) (.inl (by simp))).setCell (p:=⟨w.heap.size,2,none⟩) (.int .u64 (u.floor:Int)) (.inl (by simp))).setCell (p:=⟨w.heap.size,3,none⟩) (.int .u64 (u.cert:Int)) (.inl (by simp))).setCell (p:=⟨w.heap.size,4,none⟩) (.int .u64 (u.at_:Int)) (.inl (by simp))).setCell (p:=⟨w.heap.size,5,none⟩) (.int .u64 (u.lease:Int)) (.inl (by simp));have hfz:=(hfr4.chg hCz (fun a ha hm=>by have:=hlow4 a ha;simp at hm;omega));have hfz2:ez1 (w.heap.size+1) _ A3 n3 c3 u.files:=⟨hfz.row,hfz.nc,hfz.cm,fun a ha=>by have:=hlow4 a ha;omega⟩;have hcz:=hc3.trans hCz (by simp);have hn3:n3≤40:=by
      have:=hfz.row.flen;omega
     have HBZ:=Lib.hid hBz;have HFZ:=Lib.hid hfz2;have HCZ:=Lib.hid hcz;clear hBz hfz hfz2 hcz hCz hfr4 hlow4 hc3 hB3 hbxu;go_wp2;go_roundw
     case rel=>exact⟨k+1,u,A3,n3,c3,by omega,rfl,by go_num,hn3,HBZ.out,HFZ.out,HSTEP,HCZ.out⟩
     case measure=>simp[intOf];omega
   ·obtain rfl:n=k:=by omega
    have hall:Vw.steps Z=some v:=by
     have h:=hst.out
     rwa [List.take_of_length_le (by omega)]at h
    have hRs:R=some (v,n,stop):=by
     rw[HRV.out,hall];rfl
    have hbr:Below w.heap.size w wr:=hb.trans (hchg.below hb.size (by simp));have HRS:=Lib.hid hRs;have o0:=hBx.cell 0;have z0:=hBx.free 0;have o1:=hBx.cell 1;have z1:=hBx.free 1;have o2:=hBx.cell 2;have z2:=hBx.free 2;have o3:=hBx.cell 3;have z3:=hBx.free 3;have o4:=hBx.cell 4;have z4:=hBx.free 4;have o5:=hBx.cell 5;have z5:=hBx.free 5;simp only[Vw.cells,gE0,gE1]at o0 o1 o2 o3 o4 o5;have hCz:=((((((Chg.refl [w.heap.size] wr).setCell (p:=⟨w.heap.size,0,none⟩) (.int .i64 v.log) (.inl (by simp))).setCell (p:=⟨w.heap.size,1,none⟩) (.slice A1 m1 c1) (.inl (by simp))).setCell (p:=⟨w.heap.size,2,none⟩) (.int .u64 (v.floor:Int)) (.inl (by simp))).setCell (p:=⟨w.heap.size,3,none⟩) (.int .u64 (v.cert:Int)) (.inl (by simp))).setCell (p:=⟨w.heap.size,4,none⟩) (.int .u64 (v.at_:Int)) (.inl (by simp))).setCell (p:=⟨w.heap.size,5,none⟩) (.int .u64 (v.lease:Int)) (.inl (by simp));have hfz:=(hfr.chg hCz (fun a ha hm=>by have:=hfr.low a ha;simp at hm;omega)).base (B':=w.heap.size) (by omega);have hpost:yx3 w R (.returned (.tuple #[.agg #[.int .i64 v.log,.slice A1 m1 c1,.int .u64 (v.floor:Int),.int .u64 (v.cert:Int),.int .u64 (v.at_:Int),.int .u64 (v.lease:Int)],.int .i64 (n:Int),.int .i64 (stop:Int),.int .i64 0])) ((((((wr.setCell ⟨w.heap.size,0,none⟩ (.int .i64 v.log)).setCell ⟨w.heap.size,1,none⟩ (.slice A1 m1 c1)).setCell ⟨w.heap.size,2,none⟩ (.int .u64 (v.floor:Int))).setCell ⟨w.heap.size,3,none⟩ (.int .u64 (v.cert:Int))).setCell ⟨w.heap.size,4,none⟩ (.int .u64 (v.at_:Int))).setCell ⟨w.heap.size,5,none⟩ (.int .u64 (v.lease:Int))):=by
     rw[HRS.out];refine⟨hbr.trans (hCz.below hbr.size (by simp)),?_⟩;exact⟨A1,m1,c1,rfl,hm1,hfz⟩
    have HP:=Lib.hid hpost;clear hpost hCz hfz hfr hall hRs hBx hchg hbodr hst;go_wp2;refine bodyPost_ret (v:=.tuple #[.agg #[.int .i64 v.log,.slice A1 m1 c1,.int .u64 (v.floor:Int),.int .u64 (v.cert:Int),.int .u64 (v.at_:Int),.int .u64 (v.lease:Int)],.int .i64 (n:Int),.int .i64 (stop:Int),.int .i64 0]) (by simp[results,go_sem, *]) rfl ?_;exact HP.out
end
section
open Go Go.RowKit
end
section
open Go Go.RowKit
variable {w W W':World} {ec cs:List Value} {A:Option Addr} {n c:Nat} {fs:List (Int×Int)}
end
section
open Go Go.RowKit
end
section
open Go Go.RowKit Go.ChangeShapes Go.WideShapes Go.Deep Go.Joins
section
variable {H:Type} {enc:TypeId×Value→H} {P:Program} {w:World} {base:Nat} {spare:Nat→Bool} {held:Bool}
end
theorem ej5 {n:Int} (h:(Lit.int .i64 n).wf=true):-9223372036854775808≤n∧n≤9223372036854775807:=by
 simp only[Lit.wf,IntKind.min,IntKind.max,IntKind.signed,IntKind.bits,Bool.and_eq_true,decide_eq_true_eq,if_true]at h;omega
theorem sy4 {n:Int} (h:(Lit.int .u64 n).wf=true):∃u:Nat,n=(u:Int)∧u < 18446744073709551616:=by
 simp only[Lit.wf,IntKind.min,IntKind.max,IntKind.signed,IntKind.bits,Bool.and_eq_true,decide_eq_true_eq,Bool.false_eq_true,if_false]at h;exact⟨n.toNat,by omega,by omega⟩
end
section
open Go
def cont (d:Sd) (s:List UInt8):Option (List UInt8):=(d.names.get s).map fun i=>(d.files.getD i ([],0)).1
def upd (f:List UInt8→Option (List UInt8)) (s:List UInt8) (v:Option (List UInt8)):List UInt8→Option (List UInt8):=fun t=>if t=s then v else f t
structure Calm (d:Sd):Prop where
 wf:d.Wf
 dead:d.dead=false
 stop:d.stop=0
 fail:d.fail=0
 inj:∀p∈d.names,∀q∈d.names,p.2=q.2→p.1=q.1
structure Small (d:Sd) (K:List (List UInt8)) (B:Nat):Prop where
 names:∀s x,cont d s=some x→s∈K
 len:∀s x,cont d s=some x→x.length≤B
namespace Calm
variable {d:Sd} {s:List UInt8}
theorem new (q:Int) (hq:q≤1099511627776):Calm (Sd.new q):=⟨Sd.rk4 q hq,rfl,rfl,rfl,fun p hp=>by cases hp⟩
theorem mq1 (q:Int):cont (Sd.new q)=fun _=>none:=rfl
theorem call (h:Calm d) {l:List (List UInt8)} (hl:l.all Sd.named=true):d.call l=({ d with calls:=RowKit.wrap64 (d.calls+1) },0):=by
 unfold Sd.call;rw[if_neg (by simp[hl])];simp only[h.dead,h.stop,h.fail];rfl
theorem fq2 {x:List UInt8} (hc:cont d s=some x):∃i,d.names.get s=some i∧(d.files.getD i ([],0)).1=x:=by
 unfold cont at hc
 cases hg:d.names.get s with
 |none=>rw[hg]at hc;cases hc
 |some i=>rw[hg]at hc;injection hc with hc;exact⟨i,rfl,hc⟩
theorem get_none (hc:cont d s=none):d.names.get s=none:=by
 unfold cont at hc
 cases hg:d.names.get s with
 |none=>rfl
 |some i=>rw[hg]at hc;cases hc
theorem pw4 (h:Calm d) (n:Int):Calm { d with calls:=n }:=by
 obtain⟨⟨a1,a2,a3,a4,a5,a6,a7,a8,b1,b2,b3,a9,a10⟩,c1,c2,c3,c4⟩:=h;exact⟨⟨a1,a2,a3,a4,a5,a6,a7,a8,b1,b2,b3,a9,a10⟩,c1,c2,c3,c4⟩
theorem read (h:Calm d) (hs:Sd.named s=true) {x:List UInt8} (hc:cont d s=some x):d.read s=(x,0):=by
 obtain⟨i,hg,hx⟩:=fq2 hc;unfold Sd.read;rw[if_neg (by simp[hs]),if_neg (by simp[h.dead]),hg];simp only;rw[hx]
theorem vv3 (h:Calm d) (hs:Sd.named s=true) (hc:cont d s=none):(d.read s).2=11:=by
 unfold Sd.read;rw[if_neg (by simp[hs]),if_neg (by simp[h.dead]),get_none hc]
theorem create (h:Calm d) (hs:Sd.named s=true) (hc:cont d s=none) (hn:d.names.length < 64):(d.create s).2=0∧Calm (d.create s).1∧cont (d.create s).1=upd (cont d) s (some [])∧(d.create s).1.quota=d.quota:=by
 have hw:=h.wf.create s;have hg:=get_none hc;have e:d.create s=({ d with calls:=RowKit.wrap64 (d.calls+1),names:=d.names.put s d.files.length,turns:=d.turns++[⟨1,d.files.length,s,[]⟩],files:=d.files++[([],0)] },0):=by
  unfold Sd.create;rw[h.call (by simpa using hs)];simp only[ne_eq,not_true_eq_false,if_false,hg,Option.isSome_none,Bool.false_eq_true];rw[if_neg (by omega)]
 rw[e]at hw ⊢;refine⟨rfl,⟨hw,h.dead,h.stop,h.fail,fun p hp q hq he=>?_⟩,?_,rfl⟩
 ·rcases Nm.kz.1 hp with rfl|⟨hp,_⟩ <;>rcases Nm.kz.1 hq with rfl|⟨hq,_⟩
  ·rfl
  ·have:=h.wf.names q hq
   simp only at he;omega
  ·have:=h.wf.names p hp
   simp only at he;omega
  ·exact h.inj p hp q hq he
 ·funext t
  unfold cont upd
  dsimp only
  by_cases ht:t=s
  ·subst ht
   rw[if_pos rfl,Nm.zk h.wf.apart];simp
  ·rw[if_neg ht,Nm.nz h.wf.apart ht]
   cases hgt:d.names.get t with
   |none=>rfl
   |some i=>
    have hi:=h.wf.names _ (Nm.get_mem hgt);simp only at hi;simp[List.getD_eq_getElem?_getD,List.getElem?_append_left hi]
theorem fj3 (h:Calm d) {i:Nat} (hg:d.names.get s=some i) (f:List UInt8×Nat):cont { d with files:=d.files.set i f }=upd (cont d) s (some f.1):=by
 funext t
 have hi:i < d.files.length:=h.wf.names _ (Nm.get_mem hg);unfold cont upd
 dsimp only
 by_cases ht:t=s
 ·subst ht
  rw[if_pos rfl,hg];simp[List.getD_eq_getElem?_getD,hi]
 ·rw[if_neg ht]
  cases hgt:d.names.get t with
  |none=>rfl
  |some j=>
   have hij:i≠j:=fun e=>ht ((h.inj _ (Nm.get_mem hgt) _ (Nm.get_mem hg) (by simp[e])));simp[List.getD_eq_getElem?_getD,List.getElem?_set,hij]
theorem append (h:Calm d) (hs:Sd.named s=true) {x:List UInt8} (hc:cont d s=some x) (b:List UInt8) (h1:x.length+b.length≤250000) (h2:d.used+b.length≤d.quota):(d.append s b).2=0∧Calm (d.append s b).1∧cont (d.append s b).1=upd (cont d) s (some (x++b))∧(d.append s b).1.quota=d.quota:=by
 have hw:=h.wf.append s b;obtain⟨i,hg,hx⟩:=fq2 hc;have e:d.append s b=({ d with calls:=RowKit.wrap64 (d.calls+1),files:=d.files.set i (x++b,(d.files.getD i ([],0)).2) },0):=by
  unfold Sd.append;rw[h.call (by simpa using hs)];simp only[ne_eq,not_true_eq_false,if_false,hg];unfold Sd.size;rw[hx,if_neg (by omega),if_neg (by omega)]
 rw[e]at hw ⊢;refine⟨rfl,⟨hw,h.dead,h.stop,h.fail,h.inj⟩,?_,rfl⟩;exact(h.pw4 (RowKit.wrap64 (d.calls+1))).fj3 hg _
theorem sync (h:Calm d) (hs:Sd.named s=true) {x:List UInt8} (hc:cont d s=some x):(d.sync s).2=0∧Calm (d.sync s).1∧cont (d.sync s).1=cont d∧(d.sync s).1.quota=d.quota:=by
 have hw:=h.wf.sync s;obtain⟨i,hg,hx⟩:=fq2 hc;have e:d.sync s=({ d with calls:=RowKit.wrap64 (d.calls+1),files:=d.files.set i (x,d.size i) },0):=by
  unfold Sd.sync;rw[h.call (by simpa using hs)];simp only[ne_eq,not_true_eq_false,if_false,hg];rw[hx]
 rw[e]at hw ⊢;refine⟨rfl,⟨hw,h.dead,h.stop,h.fail,h.inj⟩,?_,rfl⟩;have h2:=(h.pw4 (RowKit.wrap64 (d.calls+1))).fj3 hg (x,d.size i);refine h2.trans ?_
 funext t
 unfold upd;split
 ·subst_vars;exact hc.symm
 ·rfl
theorem zy (h:Calm d) {K:List (List UInt8)} {B:Nat} (hk:Small d K B):d.names.length≤K.length∧d.used≤K.length *B:=by
 have key:∀(m:Nm) (K:List (List UInt8)),Nm.Apart m→(∀p∈m,p.1∈K∧d.size p.2≤B)→m.length≤K.length∧(m.map fun p=>d.size p.2).sum≤K.length *B:=by
  intro m
  induction m with
  |nil=>intro K _ _;simp
  |cons p r ih=>
   intro K ha hm;obtain⟨h1,h2⟩:=List.pairwise_cons.1 ha;obtain⟨hp,hs⟩:=hm p (by simp);have hl:=List.length_erase_of_mem hp;have hpos:0 < K.length:=List.length_pos_of_mem hp;obtain⟨i1,i2⟩:=ih (K.erase p.1) h2 (fun q hq=>⟨by
    have:=(hm q (by simp[hq])).1;exact(List.mem_erase_of_ne (fun e=>h1 q hq e.symm)).2 this,(hm q (by simp[hq])).2⟩)
   rw[hl]at i1 i2;refine⟨by simp;omega,?_⟩;simp only[List.map_cons,List.sum_cons];have e:K.length *B=(K.length - 1)*B+B:=by
    conv=>lhs;rw[show K.length=(K.length - 1)+1 by omega,Nat.add_mul,Nat.one_mul]
   omega
 refine key d.names K h.wf.apart (fun p hp=>?_);have hg:=Nm.sz1 h.wf.apart (s:=p.1) (i:=p.2) (by simpa using hp);have hc:cont d p.1=some (d.files.getD p.2 ([],0)).1:=by unfold cont;rw[hg];rfl
 exact⟨hk.names _ _ hc,hk.len _ _ hc⟩
theorem write (h:Calm d) (hs:Sd.named s=true) (hc:cont d s=none) {K:List (List UInt8)} {B:Nat} (hk:Small d K B) (hK:K.length < 64) (b:List UInt8) (h1:b.length≤250000) (h2:(K.length+1)*B+b.length≤d.quota):
  (d.write s b).2=0∧Calm (d.write s b).1∧cont (d.write s b).1=upd (cont d) s (some b)∧(d.write s b).1.quota=d.quota:=by
 obtain⟨l1,l2⟩:=h.zy hk;obtain⟨c1,c2,c3,c4⟩:=h.create hs hc (by omega);have hk2:Small (d.create s).1 (s::K) B:=⟨fun t x ht=>by
  rw[c3]at ht;unfold upd at ht;split at ht
  ·subst_vars;simp
  ·exact List.mem_cons_of_mem _ (hk.names t x ht),fun t x ht=>by
  rw[c3]at ht;unfold upd at ht;split at ht
  ·injection ht with ht;subst ht;simp
  ·exact hk.len t x ht⟩
 obtain⟨_,l4⟩:=c2.zy hk2;have hcs:cont (d.create s).1 s=some []:=by rw[c3,upd,if_pos rfl]
 simp only[List.length_cons]at l4;obtain⟨a1,a2,a3,a4⟩:=c2.append hs hcs b (by simp;exact h1) (by rw[c4];omega);have hcb:cont ((d.create s).1.append s b).1 s=some b:=by rw[a3,upd,if_pos rfl];rfl
 obtain⟨b1,b2,b3,b4⟩:=a2.sync hs hcb;unfold Sd.write;rw[if_neg (by simp[c1]),if_neg (by simp[a1])];refine⟨b1,b2,?_,b4.trans (a4.trans c4)⟩;rw[b3,a3,c3]
 funext t
 unfold upd;split<;>rfl
theorem rename (h:Calm d) {a b:List UInt8} (ha:Sd.named a=true) (hb:Sd.named b=true) (hne:a≠b) {x:List UInt8} (hc:cont d a=some x):(d.rename a b).2=0∧Calm (d.rename a b).1∧cont (d.rename a b).1=upd (upd (cont d) b (some x)) a none∧(d.rename a b).1.quota=d.quota:=by
 have hw:=h.wf.rename a b;obtain⟨i,hg,hx⟩:=fq2 hc;have hgo:Tn.go ⟨2,0,a,b⟩ d.names=(d.names.put b i).del a:=by unfold Tn.go;simp[hg]
 have e:d.rename a b=({ d with calls:=RowKit.wrap64 (d.calls+1),names:=(d.names.put b i).del a,turns:=d.turns++[⟨2,0,a,b⟩] },0):=by
  unfold Sd.rename;rw[h.call (by simp[ha,hb])];simp only[ne_eq,not_true_eq_false,if_false,hg,Option.isNone_some,Bool.false_eq_true,hne];rw[hgo]
 rw[e]at hw ⊢;have hap:=Nm.ax1 h.wf.apart b i;refine⟨rfl,⟨hw,h.dead,h.stop,h.fail,fun p hp q hq he=>?_⟩,?_,rfl⟩
 ·obtain⟨hp,hpa⟩:=Nm.vw.1 hp
  obtain⟨hq,hqa⟩:=Nm.vw.1 hq;have ham:=Nm.get_mem hg
  rcases Nm.kz.1 hp with rfl|⟨hp,_⟩ <;>rcases Nm.kz.1 hq with rfl|⟨hq,_⟩
  ·rfl
  ·exact absurd (h.inj _ ham q hq (by simpa using he)).symm hqa
  ·exact absurd (h.inj p hp _ ham (by simpa using he)) hpa
  ·exact h.inj p hp q hq he
 ·funext t
  unfold cont upd
  dsimp only
  by_cases ht:t=a
  ·subst ht
   rw[if_pos rfl,Nm.tj1];rfl
  ·rw[if_neg ht,Nm.cy1 hap ht]
   by_cases ht2:t=b
   ·subst ht2
    rw[if_pos rfl,Nm.zk h.wf.apart];simp only[Option.map_some];rw[hx]
   ·rw[if_neg ht2,Nm.nz h.wf.apart ht2]
theorem ax (h:Calm d):(d.ax).2=0∧Calm (d.ax).1∧cont (d.ax).1=cont d∧(d.ax).1.quota=d.quota:=by
 have hw:=h.wf.ax;have e:d.ax=({ d with calls:=RowKit.wrap64 (d.calls+1),lasted:=d.names,turns:=[] },0):=by
  unfold Sd.ax;rw[h.call rfl];rfl
 rw[e]at hw ⊢;exact⟨rfl,⟨hw,h.dead,h.stop,h.fail,h.inj⟩,rfl,rfl⟩
theorem py1 (h:Calm d):s∈d.list↔∃x,cont d s=some x:=by
 unfold Sd.list;rw[if_neg (by simp[h.dead]),List.mem_mergeSort];constructor
 ·intro hm
  obtain⟨p,hp,rfl⟩:=List.mem_map.1 hm;have hg:=Nm.sz1 h.wf.apart (s:=p.1) (i:=p.2) (by simpa using hp);exact⟨_,by unfold cont;rw[hg];rfl⟩
 ·rintro⟨x,hx⟩
  obtain⟨i,hg,_⟩:=fq2 hx;exact List.mem_map.2 ⟨(s,i),Nm.get_mem hg,rfl⟩
end Calm
end
section
open Go
namespace Mw
open Mn
def man (n:Nat):List UInt8:=name kMan n
theorem wk1 {n:Nat} (h1:1≤n) (h2:n≤1073741824):(fits n&&isKind kMan)=true:=by
 have:isKind kMan=true:=by decide
 rw[this];simp[fits];omega
theorem cz2 {n:Nat} (h1:1≤n) (h2:n≤1073741824):man n=[109,97,110,46] ++Lib.decDigits n:=by
 rw[man,dy1 (wk1 h1 h2)];rfl
theorem dx1 {n:Nat} (h1:1≤n) (h2:n≤1073741824):Sd.named (man n)=true:=gz2 (wk1 h1 h2)
theorem yx1 {n:Nat} (h1:1≤n) (h2:n≤1073741824):man n≠kCur:=by
 rw[cz2 h1 h2];simp[kCur]
theorem ek1 {n:Nat} (h1:1≤n) (h2:n≤1073741824):man n≠gq:=by
 rw[cz2 h1 h2];simp[gq]
theorem iq1:kCur≠gq:=by decide
theorem ay1 {n:Nat} (h1:1≤n) (h2:n≤1073741824):number (man n) kMan=some (n:Int):=cx3 (wk1 h1 h2)
theorem dq1:number kCur kMan=none:=by
 unfold number;rw[if_neg (by decide)]
theorem ky1 (nm:List UInt8):∀(l:List (List UInt8)) (d:Sd),(∀s∈l,(number s kMan).isSome=true→s=nm)→sweep nm l d=d
 |[],d,_=>rfl
 |o::r,d,h=>by
  rw[sweep];have:((number o kMan).isSome&&!(o==nm))=false:=by
   cases ho:(number o kMan).isSome with
   |false=>rfl
   |true=>
    have:=h o (by simp) ho;simp[this]
  rw[this];exact ky1 nm r d (fun s hs=>h s (by simp[hs]))
theorem dv1:Sd.named kCur=true:=by decide
theorem qy:Sd.named gq=true:=by decide
end Mw
end
section
open Go
namespace Gw
open Mn
open Mw (kCur gq headB sweep man dx1 yx1 ek1 iq1 dv1 qy ay1 dq1 ky1)
end Gw
end
section
open Go Go.RowKit Go.Shelf
variable {W0 w w1 w2:World} {X X1:Dw} {S S1:Sd} {m m1:Nat} {M M1:Ms}
namespace Mw
open Mn
theorem qy1 (nm:List UInt8):∀(l:List (List UInt8)) (d:Sd),(sweep nm l d).load≤d.load+l.length
 |[],d=>Nat.le_refl _
 |o::r,d=>by
  rw[sweep];have h:=qy1 nm r;split
  ·have h1:=h (d.remove o).1
   have h2:=Sd.dj1 d o;simp only[List.length_cons];omega
  ·have h1:=h d
   simp only[List.length_cons];omega
end Mw
end
section
open Go Go.RowKit Go.Shelf
end
section
open Go Go.RowKit Go.Shelf
variable {P P1:Sl} {W0 w w1 w2:World} {X X1:Dw} {S S1:Sd} {m m1:Nat} {M M1:Gs}
end
section
open Go Go.RowKit
structure Ev where
 e:Ed
 D:Option Addr
 m:Nat
 d:Nat
 A:Option Addr
 n:Nat
 c:Nat
structure Vc where
 v:Vw
 A:Option Addr
 n:Nat
 c:Nat
variable {B B' n:Nat} {w w':World} {A:Option Addr} {xs:List Ev} {ys:List Vc}
variable {b0 base:Nat} {gv ov gv' ov':Value} {gs:List Ev} {vs:List Vc}
theorem qx4 {B n size:Nat} {xs:List Value} (h:Row B w A n size xs) {j:Nat} (hj:j < xs.length) {a:Addr} (ha:A=some a):a.block < B:=by
 obtain⟨a',e,b,_⟩:=h.cell j hj;rw[ha]at e;injection e with e;subst e;exact b
end
end Go.Proofs.YthjdpplgfdihoaaGreatDoor
