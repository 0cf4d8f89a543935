/- Some of the texts. No conditions. -/
import Derived.Test.YtfbkjjdfboagfaaGreatDoorBunAS

set_option linter.unusedSimpArgs false
set_option linter.unusedVariables false
set_option maxRecDepth 100000
set_option maxHeartbeats 16000000
namespace Go.Proofs.YtfbkjjdfboagfaaGreatDoor
open Go.Proofs.Tryz Go Go.RowKit Go.Lib Go.Shelf
section
variable {w w1 w2:World} {X X1 X2:Dw} {S S1 S2:Sd} {Y Y1 Y2:Yw} {V V1 V2:Sv}
structure Mt where
 floor:Nat
 cert:Nat
 at_:Nat
 lease:Nat
def Mt.val (m:Mt):Value:=.agg #[[m.floor],[m.cert],[m.at_],[m.lease]]
namespace St
def uj (V:Sv):Mt:=⟨V.M.v.floor,V.M.v.cert,V.M.v.at_,V.M.v.lease⟩
def sync (S:Sd) (V:Sv):Sd×Sv×Nat:=
 if V.only=true then (S,V,14) else
 if (S.sync V.nm).2=0 then ((S.sync V.nm).1,V,0) else ((S.sync V.nm).1,{ V with only:=true },(S.sync V.nm).2)
end St
theorem aw1 (h:SvAt w X S Y V) (hn:V.M.v.files.length<=10000):
  Calls prog 14 #[Y.s] w fun e w'=>e=.returned (St.uj V).val/\Below w w w':=by
 have z:=b_ w (.cells #[.int .u64 0,.int .u64 0,.int .u64 0,.int .u64 0] 39);have H:=BoxO.new w #[.int .u64 0,.int .u64 0,.int .u64 0,.int .u64 0] 39;have h1:=h.below z;have k1:=h1.box.cell 1;simp only[Yw.cells,gE0,gE1]at k1;have U:=qz1 X.d h1.man h1.row.row (by rw[h1.plen];exact hn);obtain⟨v,I⟩:=n_ V.M.v;unfold St.uj Mt.val;rw[<-I]at U ⊢;unfold Vw.val at U;have HV:=H_ U;have HB:=H_ (d_ z H);clear U I h h1 z H;go_enter func14,ntmps14;go_wp2_with fail;refine HV.mono ?_;rintro e w2 ⟨A,c,rfl,_,C⟩;have J:=az HB.1 C;have O:=HB.2.below C;have E:=b_ w2 (.cells #[v.log,.slice A Y.P.n c,[v.floor],[v.cert],[v.at_],[v.lease]] 106);have Q:=az J E;have o:=O.below E;have f0:=o.free 0;have f1:=o.free 1;have f2:=o.free 2;have f3:=o.free 3;have s0:=o.c0;have s1:=o.c1;have s2:=o.c2;have s3:=o.c3;have HQ:=H_ Q;clear HV HB J O E Q o C;go_wp2;refine bodyPost_ret (v:=.agg #[[v.floor],[v.cert],[v.at_],[v.lease]]) (by simp[results,go_sem, *]) rfl ⟨rfl,?_⟩;exact(((HQ.setCell (p:=⟨w,0,none⟩) l_ _).setCell (p:=⟨w,1,none⟩) l_ _).setCell (p:=⟨w,2,none⟩) l_ _).setCell (p:=⟨w,3,none⟩) l_ _
theorem kk3 (h:SvAt w X S Y V) (C:V.st.length<=1000000) (s:Int):
  Calls prog 23 #[Y.s,s] w (ej1 w (V.st.filter fun a=>a.s==s)):=by
 have c5:=h.box.cell 5;simp only[Yw.cells,gE0,gE1]at c5;have o:=H_ (ry3 Y.A.a Y.A.n Y.A.c V.st s w (by rw[h.alen];omega) h.st.now.row);clear h;go_enter func23,ntmps23;go_wp2_with fail;refine o.mono ?_;rintro e w1 ⟨A',k,rfl,h1⟩;have z:=H_ h1;clear h1;go_wp2;go_ret;exact⟨A',k,rfl,z⟩
theorem iv3 (h:SvAt w X S Y V) (a5:V.nm.length<=1000):
  Calls prog 67 #[Y.s] w (az1 X Y w (St.sync S V)):=by
 obtain⟨R,o⟩:=n_ (St.sync S V);have J:=o;unfold St.sync at o;rw[<-J];clear J;have I:=h.box.cell 10;have c2:=h.box.cell 2;simp only[Yw.cells,gE0,gE1]at I c2;have HH:=H_ h
 cases O:V.only with
 |true=>
  rw[if_pos O]at o;rw[O]at I;have Q:Hid (az1 X Y w R (.returned (.int .i64 14)) w):=H_ (by rw[o];exact⟨rfl,fj1.refl h⟩);clear o O h;go_enter func67,ntmps67;go_wp2;go_ret;exact Q
 |false=>
 rw[if_neg (by simp[O])]at o;rw[O]at I;have z:=kv2 X S Y.g V.nm V.sz V.ct w a5 h.dm h.log (h.apart.x _ (Yw.aj.2 (.inr (.inr (.inl rfl)))));obtain⟨r,hr⟩:=n_ (S.sync V.nm);rw[<-hr]at z o;obtain⟨S1,er⟩:=r;simp only at z o;have a6:=H_ z;have HR:=H_ o;clear z o hr h;go_enter func67,ntmps67;go_wp2_with fail;refine a6.mono ?_;rintro e w1 ⟨rfl,hu⟩;obtain⟨X1,e1,C,E,H⟩:=HH.disk hu
 by_cases h0:er=0
 ·subst h0
  have Q:Hid (az1 X Y w R (.returned (.int .i64 0)) w1):=H_ (by
   have:=HR.out;rw[if_pos rfl]at this;rw[this];exact⟨rfl,X1,Y,e1,rfl,C,E,H,.inl rfl⟩)
  clear C E H hu e1;go_wp2;go_ret;exact Q
 ·have e3:((er:Int)==0)=false:=by simp;omega
  have U:=sq2 C er;have a8:=H_ U;have HU:=H_ (d_ e1 (d_ E H));clear U C E H hu e1;go_wp2_with fail;refine a8.mono ?_;rintro e w2 ⟨rfl,a0,a1⟩;have Q:Hid (az1 X Y w R (.returned (.int .i64 er)) w2):=H_ (by
   have:=HR.out;rw[if_neg h0]at this;rw[this];exact⟨rfl,X1,Y,HU.1,rfl,a0,HU.2.1.trans a1 HU.2.2,HU.2.2,.inl rfl⟩)
  clear a0 a1;go_wp2;go_ret;exact Q
def St.may1 (a b:Nat):Prop:=a<=281474976710656/\(a=0->b=0)
def St.ny1 (m was:Mt):Prop:=St.may1 m.floor was.floor/\St.may1 m.cert was.cert/\St.may1 m.at_ was.at_/\St.may1 m.lease was.lease
def St.setMeta (S:Sd) (V:Sv) (m:Mt):Sd×Sv×Nat:=if V.only=true then (S,V,14) else St.saved S V ⟨[],[],0,m.floor,m.cert,m.at_,m.lease⟩
def pairs (m was:Mt):List Value:=[[m.floor],[was.floor],[m.cert],[was.cert],[m.at_],[was.at_],[m.lease],[was.lease]]
theorem vq5 {m o:Mt} (h:St.ny1 m o) {k:Nat} (z:k < 4):∃a b:Nat,(pairs m o)[k *2]?=some (.int .u64 a)/\(pairs m o)[k *2+1]?=some (.int .u64 b)/\St.may1 a b:=by
 obtain⟨C,h1,h2,h3⟩:=h
 match k,z with
 |0,_=>exact⟨_,_,rfl,rfl,C⟩
 |1,_=>exact⟨_,_,rfl,rfl,h1⟩
 |2,_=>exact⟨_,_,rfl,rfl,h2⟩
 |3,_=>exact⟨_,_,rfl,rfl,h3⟩
theorem iw4.up {w0:World} (C:Below w0 w0 w) (h:iw4 X Y w w1 S1 V1):fj1 X Y w0 w1 S1 V1:=let ⟨X',E,a,b,c,d,_⟩:=h;⟨X',{ Y with P:=E },a,rfl,b,(Chg.of_below C _).trans c (fun g o=>.inl o),fun g o=>(d g o).imp (fun z=>z) (g_ C.size),.inl rfl⟩
theorem aw2 (h:SvAt w X S Y V) (m:Mt) (hm:St.ny1 m (St.uj V)) (b':V.M.v.files.length<=40) (c9:V.M.count<=1000000000) (d0:V.M.name.length<=1000):
  Calls prog 25 #[Y.s,m.val] w (az1 X Y w (St.setMeta S V m)):=by
 obtain⟨R,Q⟩:=n_ (St.setMeta S V m);have a8:=Q;unfold St.setMeta at Q;rw[<-a8];clear a8;have C:=b_ w (.cells #[[m.floor],[m.cert],[m.at_],[m.lease]] 39);have U:=BoxO.new w #[[m.floor],[m.cert],[m.at_],[m.lease]] 39;have h1:=h.below C;have a0:=h1.box.cell 10;simp only[Yw.cells,gE0,gE1]at a0;have E:=aw1 h1 o_;obtain⟨b,hb⟩:=n_ (St.uj V);rw[<-hb]at E hm;unfold Mt.val at E ⊢;have HH:=H_ h;have HB:=H_ (d_ C U);have a9:=H_ E;have HM:=H_ hm
 cases ho:V.only with
 |true=>
  rw[if_pos ho]at Q;rw[ho]at a0;have HZ:Hid (∀w',Below w w w'->az1 X Y w R (.returned (.int .i64 14)) w'):=H_ (fun w' hq=>by rw[Q];exact⟨rfl,fj1.same h hq⟩);have HY:=H_ (HZ.out _ C);clear Q ho h h1 E hm hb HZ C U;go_enter func25,ntmps25;go_wp2;go_ret;exact HY
 |false=>
 rw[if_neg (by simp[ho])]at Q;rw[ho]at a0;have HR:=H_ Q;clear Q ho h h1 E hm hb C U;go_enter func25,ntmps25;go_wp2_with fail;refine a9.mono ?_;rintro e w2 ⟨rfl,a1⟩;have a':=HB.2.below a1;have H:=az HB.1 a1;have a2:=b_ w2 (.cells #[[b.floor],[b.cert],[b.at_],[b.lease]] 39);have o:=a'.below a2;have b0:=az H a2;have s0:=o.c0;have s1:=o.c1;have s2:=o.c2;have s3:=o.c3;have hP:=BoxO.new (w2.alloc (.cells #[[b.floor],[b.cert],[b.at_],[b.lease]] 39)) (pairs m b).toArray 131;have J:=o.alloc (.cells (pairs m b).toArray 131);have O:=az b0 (b_ _ (.cells (pairs m b).toArray 131));rw[F_]at hP;unfold pairs at hP J O;obtain⟨W,hW⟩:=n_ ((w2.alloc (.cells #[[b.floor],[b.cert],[b.at_],[b.lease]] 39)).alloc (.cells [.int .u64 m.floor,.int .u64 b.floor,.int .u64 m.cert,.int .u64 b.cert,.int .u64 m.at_,.int .u64 b.at_,.int .u64 m.lease,.int .u64 b.lease].toArray 131));rw[<-hW]at hP J O;have HP:Hid (BoxO W 131 ((w2:Nat)+1) (pairs m b)):=H_ hP;have b2:=H_ J;have b3:=H_ O;have HW:=H_ hW;clear a9 hP J O hW a' a1 H a2 o b0;go_wp2_with fail;simp only[List.toArray]at HW;rw[<-HW.out];generalize (w2:Nat)+1=gp at *;generalize (w:Nat)=gm at b2;clear s0 s1 s2 s3
 go_loopw [36] (fun i wr=>∃k:Nat,k<=4/\i=.int .i64 k/\Below W W wr) (fun i _=>4 - (intOf i).toNat)
 case atStart=>exact⟨0,A_ _,rfl,Below.refl _ _⟩
 case round=>
  obtain⟨k,hk,rfl,z⟩:=hrel
  by_cases d7:k < 4
  ·obtain⟨x,y,hx,hy,b5,a4⟩:=vq5 HM.out d7
   have q0:=(HP.below z).cell (k *2);have q1:=(HP.below z).cell (k *2+1);rw[hx]at q0;rw[hy]at q1;have d':(k:Int) < 4:=o_
   have f2:IntKind.i64.wrap (k:Int)=(k:Int):=M_ _ o_;have e1:((281474976710656:Int) < (x:Int))=False:=eq_false o_;have H:=z.alloc z.size (.cells #[[x],[y]] 131)
   by_cases b6:x=0
   ·obtain rfl:=a4 b6
    subst b6;clear hx hy b5 a4;go_wp2;go_roundw
    case rel=>exact⟨k+1,o_,by go_num,H⟩
    case measure=>simp[intOf];omega
   ·have e2:((x:Int)==0)=false:=by simp;omega
    clear hx hy b5 a4;go_wp2;go_roundw
    case rel=>exact⟨k+1,o_,by go_num,H⟩
    case measure=>simp[intOf];omega
  ·have d':((k:Int) < 4)=False:=eq_false o_
   have a5:=b3.trans (z.mono b3.size);have h5:=HH.below a5;have I:=b2.below z;have s0:=I.c0;have s1:=I.c1;have s2:=I.c2;have s3:=I.c3;have a6:=jz3 h5 ⟨[],[],0,m.floor,m.cert,m.at_,m.lease⟩ none 0 0 none 0 0 o_ o_ Row.nil_ Row.nil_ b' c9 d0;unfold Ed.val at a6;have b7:=H_ a6;have e0:=H_ a5;clear a6 h5 a5 I;go_wp2_with fail;refine b7.mono ?_;rintro e w6 ⟨rfl,hg⟩;have HZ:Hid (az1 X Y w R (.returned (.int .i64 ((St.saved S V ⟨[],[],0,m.floor,m.cert,m.at_,m.lease⟩).2.2:Int))) w6):=H_ (by
    rw[HR.out];exact⟨rfl,hg.up e0⟩)
   clear hg b7 s0 s1 s2 s3;go_wp2;go_ret;exact HZ
end
section
variable {w w1 w2:World} {X X1 X2:Dw} {S S1 S2:Sd} {Y Y1 Y2:Yw} {V V1 V2:Sv} {G F:List Nat}
def cv4 (w:World) (G:List Nat):Prop:=∀a:Addr,a.block∈G->∀v,w.cell? a=some v->∃b,v=.bool b
def uy4 (xs:List Value):Prop:=∀v∈xs,∀b,v≠.bool b
theorem gv4 (l:List It):uy4 (itc l):=by
 intro v o b e;subst e;unfold itc at o;rw[W_]at o;obtain⟨x,_,h⟩:=o;simp[It.cells]at h
theorem xz2 (l:List (Int×Int)):uy4 (bz l):=by
 intro v o b e;subst e;unfold bz at o;rw[W_]at o;obtain⟨x,_,h⟩:=o;simp at h
theorem uj3 {B n size:Nat} {A:Option Addr} {xs:List Value} (h:Row B w A n size xs) (o:uy4 xs) (z:cv4 w G) (c:Chg G w w1) (C:B<=(w:Nat)):Row B w1 A n size xs:=
 nz c h C fun j hj a E H=>by
  obtain⟨O,e,_,I⟩:=h.cell j hj;rw[E]at e;injection e with e;subst e;obtain⟨b,J⟩:=z _ (by rw[add_block];exact H) _ I;exact o _ (w_ hj) b J
def back (w w1:World) (G:List Nat):World:={ w1 with heap:=w1.heap.mapIdx fun i o=>if i∈G then (w.heap[i]?).getD o else o }
theorem zx4 {k:Nat} (o:k∈G) (z:k < (w:Nat)) (h1:k < (w1:Nat)):(back w w1 G).heap[k]?=w.heap[k]?:=by
 unfold back;simp only[Array.getElem?_mapIdx,aa_ h1,aR_,if_pos o,aa_ z,Option.getD_some]
theorem cx2 {k:Nat} (o:k∉G):(back w w1 G).heap[k]?=w1.heap[k]?:=by
 unfold back;simp only[Array.getElem?_mapIdx,if_neg o]
 cases w1.heap[k]?<;>rfl
theorem fz1:(back w w1 G).heap.size=(w1:Nat):=by simp[back]
theorem uw.tick {A:Option Addr} {n c:Nat} {l:List It} (h:uw F w fun w=>Its 0 w A n c l) (Q:cv4 w G) (k:Chg G w w1) (H:∀g∈G,g < (w:Nat)):uw F w1 fun w=>Its 0 w A n c l:=fun w2 z=>by
 have C:=g_ k.size z.size;have I:∀g∈G,(back w w2 G).heap[g]?=w.heap[g]?:=fun g o=>zx4 o (H g o) (L_ (H g o) C);have h1:=h (back w w2 G) ⟨z.os.trans k.os,z.tape.trans k.tape,z.output.trans k.output,by rw[fz1];exact C,fun g o hF=>by
  by_cases E:g∈G
  ·exact I g E
  ·rw[cx2 E,z.block g (L_ o k.size) hF,k.block g o E]⟩
 refine⟨?_,h1.nc,h1.cm,h1.low⟩;have J:=h1.row;rw[fz1]at J;exact uj3 J (gv4 l) (fun a O v U=>Q a O v (by rw[<-U];exact(X_ (I _ O)).symm)) (w1:=w2) (G:=G) ⟨rfl,rfl,rfl,by rw[fz1];exact B_ _,fun g _ E=>(cx2 E).symm⟩ (by rw[fz1];exact B_ _)
theorem iv1.none {T:Sl} {q:List Tq} (h:iv1 w T q []) (w1:World):iv1 w1 T q []:=by
 obtain⟨h1,h2,h3,h4,h5,C⟩:=h;have o:q=[]:=List.map_eq_nil_iff.1 h1;subst o;exact⟨rfl,⟨h2.len,fun j hj=>absurd hj (by simp[hcells])⟩,h3,h4,h5,fun p z=>by cases z⟩
theorem SvAt.tick (h:SvAt w X S Y V) (H:V.tabs=[]) (E:cv4 w G) (c:Chg G w w1) (z:∀g∈G,g∉XY X Y/\NG<=g/\g < (w:Nat)):SvAt w1 X S Y V:=by
 have C:∀g∈Y.foot,g∉G:=fun g h1 h2=>(z g h2).1 (k_ _ h1);refine⟨h.dm.chg c (fun g o=>⟨fun I=>(z g o).1 (x_ _ I),(z g o).2.1⟩),h.box.chg c (C _ (Yw.aj.2 (.inl rfl))),h.man.chg c (C _ (Yw.aj.2 (.inr (.inl rfl)))),?_,h.pout,h.log.chg c (C _ (Yw.aj.2 (.inr (.inr (.inl rfl))))),h.mem.chg c (fun g o=>C g (Yw.aj.2 ?_)),h.its,?_,h.st.tick E c (fun g o=>(z g o).2.2),h.apart,h.ng⟩
 ·exact⟨(uj3 h.row.row (xz2 _) E c l_).up c.size,h.row.nc,h.row.cm,h.row.nb,h.row.away⟩
 ·rcases h_.1 o with rfl|o
  ·exact .inr (.inr (.inr (.inl rfl)))
  ·exact .inr (.inr (.inr (.inr o)))
 ·have:=h.tabs.now
  rw[H]at this ⊢;exact fun w2 _=>this.none w2
structure NdAt (w:World) (X:Dw) (S:Sd) (Y:Yw) (V:Sv) (nb:Nat) (id:Int) (now grace:Nat):Prop where
 at_:SvAt w X S Y V
 box:BoxO w 59 nb [id,Y.s,[now],[grace]]
 out:nb∉XY X Y
section
variable {nb now grace:Nat} {id:Int}
theorem NdAt.below (h:NdAt w X S Y V nb id now grace) (o:Below w w w1):NdAt w1 X S Y V nb id now grace:=⟨h.at_.below o,h.box.below o,h.out⟩
theorem NdAt.tick (h:NdAt w X S Y V nb id now grace) (C:V.tabs=[]) (E:cv4 w G) (c:Chg G w w1) (o:∀g∈G,g∉XY X Y/\NG<=g/\g < (w:Nat)/\g≠nb):NdAt w1 X S Y V nb id now grace:=
 ⟨h.at_.tick C E c (fun g z=>⟨(o g z).1,(o g z).2.1,(o g z).2.2.1⟩),h.box.chg c (fun H=>(o nb H).2.2.2 rfl),h.out⟩
def dv1 (X:Dw) (Y:Yw) (w w1:World) (S1:Sd) (V1:Sv) (nb:Nat) (id:Int) (now grace:Nat):Prop:=∃X1 Y1,X1.d=X.d/\Y1.s=Y.s/\NdAt w1 X1 S1 Y1 V1 nb id now grace/\Chg (XY X Y) w w1/\(∀g∈XY X1 Y1,g∈XY X Y\/(w:Nat)<=g)/\NewA w Y Y1
theorem NdAt.upd (h:NdAt w X S Y V nb id now grace) (o:fj1 X Y w w1 S1 V1):dv1 X Y w w1 S1 V1 nb id now grace:=by
 obtain⟨X1,Y1,e,es,h1,c,f,z⟩:=o;refine⟨X1,Y1,e,es,⟨h1,by rw[es];exact h.box.chg c h.out,fun C=>?_⟩,c,f,z⟩
 rcases f nb C with q|q
 ·exact h.out q
 ·have:=h.box.lt
  omega
theorem dv1.same (h:NdAt w X S Y V nb id now grace) (o:Below w w w1):dv1 X Y w w1 S V nb id now grace:=⟨X,Y,rfl,rfl,h.below o,Chg.of_below o _,fun _ z=>.inl z,.inl rfl⟩
theorem dv1.trans (C:X1.d=X.d) (E:Y1.s=Y.s) (c:Chg (XY X Y) w w1) (z:∀g∈XY X1 Y1,g∈XY X Y\/(w:Nat)<=g) (H:NewA w Y Y1) (k:dv1 X1 Y1 w1 w2 S2 V2 nb id now grace):dv1 X Y w w2 S2 V2 nb id now grace:=by
 obtain⟨X2,Y2,I,J,h,c2,o,O⟩:=k;refine⟨X2,Y2,I.trans C,J.trans E,h,c.trans c2 z,fun g Q=>?_,H.trans O c.size⟩
 rcases o g Q with h1|h1
 ·exact z g h1
 ·exact .inr (g_ c.size h1)
theorem dv1.low {B:Nat} (k:dv1 X Y w1 w2 S2 V2 nb id now grace) (o:Below w w w1):dv1 X Y w w2 S2 V2 nb id now grace:=k.trans rfl rfl (Chg.of_below o _) (fun _ z=>.inl z) (.inl rfl)
end
structure Nrm (V:Sv):Prop where
 tabs:V.tabs=[]
 st:Stt V.st
 len:V.st.length<=1500
 sz:V.sz<=1000000000
 ct:V.ct<=1000000
 mem:V.mem.length<=100000
 nm:V.nm.length<=1000
 files:V.M.v.files.length<=40
 count:V.M.count<=1000000
 name:V.M.name.length<=1000
end
section
variable {w w1 w2:World}
structure Mq where
 k:Int
 frm:Int
 to_:Int
 id:Nat
 no:Nat
 A:Option Addr
 n:Nat
 c:Nat
def Mq.val (m:Mq):Value:=.agg #[m.k,m.frm,m.to_,[m.id],[m.no],.slice m.A m.n m.c]
structure Mq.Good (m:Mq) (l:List It):Prop where
 k:1<=m.k/\m.k<=10
 frm:0<=m.frm/\m.frm < 7
 to_:0<=m.to_/\m.to_ < 7
 id:m.id<=1099511627776
 no:m.no<=281474976710656
 n:m.n<=1500
 all:l.all It.ok=true
 has:m.n=0\/m.k=1\/m.k=8
theorem rj2 (x:Int) (h:0<=x/\x < 7) (w:World):Calls prog 59 #[x] w fun e w'=>e=.returned (.bool true)/\w'=w:=by
 have h1:((0:Int)<=x)=True:=eq_true h.1;have h2:(x < (7:Int))=True:=eq_true h.2;go_enter func59,ntmps59;go_wp2;go_ret;exact⟨rfl,rfl⟩
theorem dq4 (x:Int) (h:x=1\/x=8) (w:World):Calls prog 61 #[x] w fun e w'=>e=.returned (.bool true)/\w'=w:=by
 rcases h with rfl|rfl<;>
 ·go_enter func61,ntmps61
  go_wp2;go_ret;exact⟨rfl,rfl⟩
theorem mq3 (m:Mq) (l:List It) (w:World) (hg:m.Good l) (O:Row w w m.A m.n 5 (itc l)):
  Calls prog 19 #[m.val] w fun e w'=>e=.returned (.bool true)/\Below w w w':=by
 obtain⟨k,frm,to_,id,no,A,n,c⟩:=m;obtain⟨⟨h1,h2⟩,h3,h4,h5,h6,h7,Q,U⟩:=hg;unfold Mq.val;simp only at h1 h2 h3 h4 h5 h6 h7 Q U O ⊢;have e1:((1:Int)<=k)=True:=eq_true h1;have e2:(k<=(10:Int))=True:=eq_true h2;have e5:((id:Int)<=(1099511627776:Int))=True:=eq_true o_;have e6:((no:Int)<=(281474976710656:Int))=True:=eq_true o_;have e7:((n:Int)<=(1500:Int))=True:=eq_true o_;have o:=b_ w (.cells #[k,frm,to_,[id],[no],.slice A n c] 36);have H:=BoxO.new w #[k,frm,to_,[id],[no],.slice A n c] 36;have z:=wj1 A n c l _ o_ ((O.below o).up o.size);rw[Q]at z;have I:=H_ z;have a0:=H_ (rj2 frm h3);have a1:=H_ (rj2 to_ h4);have HB:=H_ (d_ o H);have H9:=H_ U;clear z h1 h2 h3 h4 h5 h6 h7 Q U o H O;go_enter func19,ntmps19;go_wp2_with fail;refine(a0.out _).mono ?_;rintro e w1 ⟨rfl,rfl⟩;go_wp2_with fail;refine(a1.out _).mono ?_;rintro e w1 ⟨rfl,rfl⟩;go_wp2_with fail
 refine m_ I ?_
 rintro e w1 ⟨rfl,C⟩;have J:=az HB.1 C;have E:=HB.2.below C;have c0:=E.c0;have c5:=E.c5;clear E HB I C
 by_cases hn:n=0
 ·subst hn
  go_wp2;go_ret;exact⟨rfl,J⟩
 ·have e0:((n:Int)==0)=false:=by simp;omega
  have a4:=H_ (dq4 k (H9.resolve_left hn));go_wp2_with fail;refine(a4.out _).mono ?_;rintro e w2 ⟨rfl,rfl⟩;go_wp2;go_ret;exact⟨rfl,J⟩
theorem jz4 (a:It) (f:Nat) (m:Mt) (b:Nat) (w:World) (C:w.cell? b=some (.int .u64 m.floor)):
  Calls prog 63 (#[a.val] ++#[.pointer (some b)]) w fun e w'=>e=.returned (.bool (decide (a.v<=m.floor)))/\Below w w w':=by
 have z:=b_ w (.cells #[a.s,a.k,[a.t],[a.v],a.x] 33);have E:∀o,(w.alloc o).cell? b=some (.int .u64 m.floor):=fun o=>(ap_ w o _ (S_ w _ C)).trans C;unfold It.val;go_enter func63,ntmps63;go_wp2;go_ret;exact⟨rfl,z⟩
theorem yj4 (m:Mt) (A:Option Addr) (n c:Nat) (l:List It) (w:World) (O:n<=1000000) (E:Row w w A n 5 (itc l)):
  Calls prog 21 #[m.val,.slice A n c] w fun e w'=>e=.returned (.bool (!l.any fun a=>decide (a.v<=m.floor)))/\Below w w w':=by
 have o:=b_ w (.cells #[[m.floor],[m.cert],[m.at_],[m.lease]] 39);have z:=BoxO.new w #[[m.floor],[m.cert],[m.at_],[m.lease]] 39;have C:=vw1 63 (fun _ _=>rfl) #[(w:Nat)] (fun a=>decide (a.v<=m.floor)) A n c l _ O ((E.below o).up o.size)
  (fun x w1 Q=>jz4 x 0 m w w1 (by rw[(z.below Q).cell];rfl))
 obtain⟨b,I⟩:=n_ (l.any fun a=>decide (a.v<=m.floor));rw[<-I]at C ⊢;have J:=H_ C;unfold Mt.val;clear C E z I;go_enter func21,ntmps21;go_wp2_with fail
 refine m_ J ?_
 rintro e w1 ⟨rfl,h1⟩;have H:=H_ (az o h1);clear h1 J o;go_wp2;go_ret;exact⟨rfl,H⟩
theorem rz4 (m:Mt) (f:Nat) (w:World):
  Calls prog 24 #[m.val,[f]] w fun e w'=>e=.returned (if f < m.floor\/f=0\/281474976710656 < f then .tuple #[.agg #[.int .u64 0,.int .u64 0,.int .u64 0,.int .u64 0],.bool false] else .tuple #[Mt.val { m with floor:=f },.bool true])/\Below w w w':=by
 have o:∀C E,Below w w ((w.alloc C).alloc E):=fun C E=>(b_ w C).alloc s_ E;unfold Mt.val;simp only;obtain⟨fl,H,I,le⟩:=m;simp only
 by_cases h1:(f:Int) < (fl:Int)
 ·rw[if_pos (.inl o_)]
  have z:=H_ o;clear o;go_enter func24,ntmps24;go_wp2;exact bodyPost_ret (v:=.tuple #[.agg #[.int .u64 0,.int .u64 0,.int .u64 0,.int .u64 0],.bool false]) (by simp[results,go_sem]) rfl ⟨rfl,z.out _ _⟩
 by_cases h2:f=0
 ·rw[if_pos (.inr (.inl h2))]
  subst h2;have z:=H_ o;clear o;go_enter func24,ntmps24;go_wp2;exact bodyPost_ret (v:=.tuple #[.agg #[.int .u64 0,.int .u64 0,.int .u64 0,.int .u64 0],.bool false]) (by simp[results,go_sem]) rfl ⟨rfl,z.out _ _⟩
 have J:((f:Int)==0)=false:=by simp;omega
 by_cases h3:(281474976710656:Int) < (f:Int)
 ·rw[if_pos (.inr (.inr o_))]
  have z:=H_ o;clear o;go_enter func24,ntmps24;go_wp2;exact bodyPost_ret (v:=.tuple #[.agg #[.int .u64 0,.int .u64 0,.int .u64 0,.int .u64 0],.bool false]) (by simp[results,go_sem]) rfl ⟨rfl,z.out _ _⟩
 rw[if_neg o_];have z:=H_ o;clear o;go_enter func24,ntmps24;go_wp2;exact bodyPost_ret (v:=.tuple #[.agg #[[f],[H],[I],[le]],.bool true]) (by simp[results,go_sem]) rfl ⟨rfl,z.out _ _⟩
def isNd (x:Int):Bool:=decide (0<=x) &&decide (x < 7)
def ly3 (k:Int):Bool:=k==1||k==5||k==7||k==8
def Mq.ok (m:Mq) (l:List It):Bool:=decide (1<=m.k) &&(decide (m.k<=10) &&(isNd m.frm&&(isNd m.to_&&(decide (m.id<=1099511627776) &&(decide (m.no<=281474976710656) &&(l.all It.ok&&(m.n==0||ly3 m.k)))))))
theorem tx2 (x:Int) (w:World):Calls prog 59 #[x] w fun e w'=>e=.returned (.bool (isNd x))/\w'=w:=by
 obtain⟨r,o⟩:=n_ (isNd x);rw[<-o];unfold isNd at o
 by_cases h1:(0:Int)<=x
 ·by_cases h2:x < (7:Int)
  ·have z:=H_ (o.trans (show _=true by simp[h1,h2]))
   clear o;go_enter func59,ntmps59;go_wp2;go_ret;exact⟨ik z.symm,rfl⟩
  ·have z:=H_ (o.trans (show _=false by simp[h1,h2]))
   clear o;go_enter func59,ntmps59;go_wp2;go_ret;exact⟨ik z.symm,rfl⟩
 ·have z:=H_ (o.trans (show _=false by simp[h1]))
  clear o;go_enter func59,ntmps59;go_wp2;go_ret;exact⟨ik z.symm,rfl⟩
theorem iq4 (x:Int) (w:World):Calls prog 61 #[x] w fun e w'=>e=.returned (.bool (ly3 x))/\w'=w:=by
 by_cases h:x=1\/x=5\/x=7\/x=8
 ·rcases h with rfl|rfl|rfl|rfl<;>
  ·go_enter func61,ntmps61
   go_wp2;go_ret;exact⟨rfl,rfl⟩
 ·have o:(x==1)=false:=by simp;omega
  have z:(x==5)=false:=by simp;omega
  have C:(x==7)=false:=by simp;omega
  have e8:(x==8)=false:=by simp;omega
  have E:Hid (ly3 x=false):=H_ (by unfold ly3;rw[o,z,C,e8];rfl);go_enter func61,ntmps61;go_wp2;go_ret;exact⟨ik E.symm,rfl⟩
theorem vz2 (m:Mq) (l:List It) (w:World) (hn:m.n<=1500) (hr:Row w w m.A m.n 5 (itc l)):
  Calls prog 19 #[m.val] w fun e w'=>e=.returned (.bool (m.ok l))/\Below w w w':=by
 obtain⟨k,frm,to_,id,no,A,n,c⟩:=m;obtain⟨r,I⟩:=n_ (Mq.ok ⟨k,frm,to_,id,no,A,n,c⟩ l);rw[<-I];unfold Mq.ok at I;unfold Mq.val;simp only at hn hr I ⊢;have e7:((n:Int)<=(1500:Int))=True:=eq_true o_;have a2:=b_ w (.cells #[k,frm,to_,[id],[no],.slice A n c] 36);have a8:=BoxO.new w #[k,frm,to_,[id],[no],.slice A n c] 36;have a4:=wj1 A n c l _ o_ ((hr.below a2).up a2.size);obtain⟨ab,a9⟩:=n_ (l.all It.ok);rw[<-a9]at a4 I;obtain⟨bf,a'⟩:∃b,b=isNd frm:=⟨_,rfl⟩;obtain⟨bt,b0⟩:∃b,b=isNd to_:=⟨_,rfl⟩;obtain⟨bh,b1⟩:∃b,b=ly3 k:=⟨_,rfl⟩;have a5:=fun W=>tx2 frm W;have a6:=fun W=>tx2 to_ W;have a7:=fun W=>iq4 k W;rw[<-a']at a5 I;rw[<-b0]at a6 I;rw[<-b1]at a7 I;have O:=H_ a4;have Q:=H_ a5;have U:=H_ a6;have b2:=H_ a7;have HB:=H_ (d_ a2 a8);have E:=H_ a2;have H:=H_ I;clear a4 a5 a6 a7 a2 a8 hr a9 a' b0 b1 I
 by_cases h1:(1:Int)<=k
 ·by_cases h2:k<=(10:Int)
  ·cases bf with
   |false=>
    have J:Hid (r=false):=H_ (by rw[H.out];simp[h1,h2]);go_enter func19,ntmps19;go_wp2_with fail;refine(Q.out _).mono ?_;rintro e w1 ⟨rfl,rfl⟩;go_wp2;go_ret;exact⟨ik J.symm,E⟩
   |true=>
    cases bt with
    |false=>
     have J:Hid (r=false):=H_ (by rw[H.out];simp[h1,h2]);go_enter func19,ntmps19;go_wp2_with fail;refine(Q.out _).mono ?_;rintro e w1 ⟨rfl,rfl⟩;go_wp2_with fail;refine(U.out _).mono ?_;rintro e w1 ⟨rfl,rfl⟩;go_wp2;go_ret;exact⟨ik J.symm,E⟩
    |true=>
     by_cases h5:(id:Int)<=(1099511627776:Int)
     ·by_cases h6:(no:Int)<=(281474976710656:Int)
      ·cases ab with
       |false=>
        have J:Hid (r=false):=H_ (by rw[H.out];simp[h1,h2,show id<=1099511627776 by omega,show no<=281474976710656 by omega]);go_enter func19,ntmps19;go_wp2_with fail;refine(Q.out _).mono ?_;rintro e w1 ⟨rfl,rfl⟩;go_wp2_with fail;refine(U.out _).mono ?_;rintro e w1 ⟨rfl,rfl⟩;go_wp2_with fail
        refine m_ O ?_
        rintro e w1 ⟨rfl,o⟩;have C:=az HB.1 o;have z:=HB.2.below o;have c0:=z.c0;have c5:=z.c5;have a0:=H_ C;clear z HB O o C E;go_wp2;go_ret;exact⟨ik J.symm,a0⟩
       |true=>
        by_cases h9:n=0
        ·subst h9
         have J:Hid (r=true):=H_ (by rw[H.out];simp[h1,h2,show id<=1099511627776 by omega,show no<=281474976710656 by omega]);go_enter func19,ntmps19;go_wp2_with fail;refine(Q.out _).mono ?_;rintro e w1 ⟨rfl,rfl⟩;go_wp2_with fail;refine(U.out _).mono ?_;rintro e w1 ⟨rfl,rfl⟩;go_wp2_with fail
         refine m_ O ?_
         rintro e w1 ⟨rfl,o⟩;have C:=az HB.1 o;have z:=HB.2.below o;have c0:=z.c0;have c5:=z.c5;have a0:=H_ C;clear z HB O o C E;go_wp2;go_ret;exact⟨ik J.symm,a0⟩
        ·have e0:((n:Int)==0)=false:=by simp;omega
         cases bh with
         |false=>
          have J:Hid (r=false):=H_ (by rw[H.out];simp[h1,h2,show id<=1099511627776 by omega,show no<=281474976710656 by omega,h9]);go_enter func19,ntmps19;go_wp2_with fail;refine(Q.out _).mono ?_;rintro e w1 ⟨rfl,rfl⟩;go_wp2_with fail;refine(U.out _).mono ?_;rintro e w1 ⟨rfl,rfl⟩;go_wp2_with fail
          refine m_ O ?_
          rintro e w1 ⟨rfl,o⟩;have C:=az HB.1 o;have z:=HB.2.below o;have c0:=z.c0;have c5:=z.c5;have a0:=H_ C;clear z HB O o C E;go_wp2_with fail;refine(b2.out _).mono ?_;rintro e w2 ⟨rfl,rfl⟩;go_wp2;go_ret;exact⟨ik J.symm,a0⟩
         |true=>
          have J:Hid (r=true):=H_ (by rw[H.out];simp[h1,h2,show id<=1099511627776 by omega,show no<=281474976710656 by omega,h9]);go_enter func19,ntmps19;go_wp2_with fail;refine(Q.out _).mono ?_;rintro e w1 ⟨rfl,rfl⟩;go_wp2_with fail;refine(U.out _).mono ?_;rintro e w1 ⟨rfl,rfl⟩;go_wp2_with fail
          refine m_ O ?_
          rintro e w1 ⟨rfl,o⟩;have C:=az HB.1 o;have z:=HB.2.below o;have c0:=z.c0;have c5:=z.c5;have a0:=H_ C;clear z HB O o C E;go_wp2_with fail;refine(b2.out _).mono ?_;rintro e w2 ⟨rfl,rfl⟩;go_wp2;go_ret;exact⟨ik J.symm,a0⟩
      ·have J:Hid (r=false):=H_ (by rw[H.out];simp[h1,h2,show id<=1099511627776 by omega,show ¬no<=281474976710656 by omega])
       go_enter func19,ntmps19;go_wp2_with fail;refine(Q.out _).mono ?_;rintro e w1 ⟨rfl,rfl⟩;go_wp2_with fail;refine(U.out _).mono ?_;rintro e w1 ⟨rfl,rfl⟩;go_wp2;go_ret;exact⟨ik J.symm,E⟩
     ·have J:Hid (r=false):=H_ (by rw[H.out];simp[h1,h2,show ¬id<=1099511627776 by omega])
      go_enter func19,ntmps19;go_wp2_with fail;refine(Q.out _).mono ?_;rintro e w1 ⟨rfl,rfl⟩;go_wp2_with fail;refine(U.out _).mono ?_;rintro e w1 ⟨rfl,rfl⟩;go_wp2;go_ret;exact⟨ik J.symm,E⟩
  ·have J:Hid (r=false):=H_ (by rw[H.out];simp[h1,h2])
   go_enter func19,ntmps19;go_wp2;go_ret;exact⟨ik J.symm,E⟩
 ·have J:Hid (r=false):=H_ (by rw[H.out];simp[h1])
  go_enter func19,ntmps19;go_wp2;go_ret;exact⟨ik J.symm,E⟩
end
end Go.Proofs.YtfbkjjdfboagfaaGreatDoor
