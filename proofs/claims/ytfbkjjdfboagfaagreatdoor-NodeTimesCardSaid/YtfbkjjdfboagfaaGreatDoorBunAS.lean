/- Some of the texts. No conditions. -/
import Derived.Test.YtfbkjjdfboagfaaGreatDoorBunAP
import Derived.Test.YtfbkjjdfboagfaaGreatDoorBunAQ
import Derived.Test.YtfbkjjdfboagfaaGreatDoorBunAO

set_option linter.unusedSimpArgs false
set_option linter.unusedVariables false
set_option maxRecDepth 100000
set_option maxHeartbeats 16000000
namespace Go.Proofs.YtfbkjjdfboagfaaGreatDoor
open Go.Proofs.Tryz Go Go.RowKit Go.Lib Go.Shelf
abbrev Tq:=((Int×Int)×List (List It))×Nat
structure Yw where
 s:Nat
 m:Nat
 g:Nat
 mm:Nat
 L:Nat
 ns:List Nd
 P:Sl
 T:Sl
 A:Sl
 q:List Tq
def Yw.foot (Y:Yw):List Nat:=Y.s::Y.m::Y.g::Y.mm::skF Y.L Y.ns
def Yw.cells (Y:Yw) (xd:Nat) (V:Sv):List Value:=[xd,Y.m,Y.g,Y.mm,.slice Y.T.a Y.T.n Y.T.c,.slice Y.A.a Y.A.n Y.A.c,(Y.A.n:Int),.int .u32 (if V.only=true then 1 else 0),.int .i32 0,.int .u32 0,.bool V.only]
def hcells (q:List Tq):List Value:=q.flatMap fun p=>[.int .i64 p.1.1.1,.int .i64 p.1.1.2,.pointer (some p.2)]
def iv1 (w:World) (T:Sl) (q:List Tq) (ts:List ((Int×Int)×List (List It))):Prop:=q.map (·.1)=ts/\Row w w T.a T.n 3 (hcells q)/\T.n<=T.c/\T.c<=maxLen/\(T.a=none->T.n=0/\T.c=0)/\∀p∈q,TbAt w p.2 p.1.2
theorem xq (q:List Tq):(hcells q).length=q.length *3:=by
 induction q with
 |nil=>rfl
 |cons p q o=>
  unfold hcells at o ⊢;rw[P_,e_,o,r_];simp only[r_,R_];omega
theorem iv1.len {w:World} {T:Sl} {q:List Tq} {ts:List ((Int×Int)×List (List It))} (h:iv1 w T q ts):T.n=ts.length:=by
 obtain⟨rfl,h1,_⟩:=h;have:=h1.len;rw[xq]at this;rw[aG_];omega
structure Yw.Apart (X:Dw) (Y:Yw):Prop where
 x:∀g∈Y.foot,g∉X.foot
 s:Y.s∉Y.m::Y.g::Y.mm::skF Y.L Y.ns
 m:Y.m∉Y.g::Y.mm::skF Y.L Y.ns
 g:Y.g∉Y.mm::skF Y.L Y.ns
abbrev XY (X:Dw) (Y:Yw):List Nat:=X.foot++Y.foot
structure SvAt (w:World) (X:Dw) (S:Sd) (Y:Yw) (V:Sv):Prop where
 dm:Dm w X S
 box:BoxO w 103 Y.s (Y.cells X.d V)
 man:GK w Y.m X.d V.M Y.P
 row:Vrow w X Y.m Y.P V.M.v.files
 pout:∀j,j < (bz V.M.v.files).length->∀a,Y.P.a=some a->a.block∉Y.foot
 log:LgAt w Y.g X.d V.nm V.sz V.ct
 mem:MmAt w Y.mm Y.L Y.ns
 its:its Y.ns=V.mem
 tabs:uw (XY X Y) w fun w=>iv1 w Y.T Y.q V.tabs
 st:uw (XY X Y) w fun w=>Its 0 w Y.A.a Y.A.n Y.A.c V.st
 apart:Y.Apart X
 ng:∀g∈Y.foot,NG<=g
variable {w w1 w2:World} {X X1 X2:Dw} {S S1 S2:Sd} {Y Y1 Y2:Yw} {V V1 V2:Sv}
theorem Yw.aj {g:Nat}:g∈Y.foot↔g=Y.s\/g=Y.m\/g=Y.g\/g=Y.mm\/g∈skF Y.L Y.ns:=by simp[Yw.foot]
theorem MmAt.lt {w:World} {m L:Nat} {ns:List Nd} (h:MmAt w m L ns):∀g∈m::skF L ns,g < (w:Nat):=by
 intro g o
 rcases h_.1 o with rfl|o
 ·obtain⟨_,z⟩:=h.box
  exact z.lt
 ·exact h.sk.lt g o
theorem SvAt.ylt (h:SvAt w X S Y V):∀g∈Y.foot,g < (w:Nat):=by
 intro g o
 rcases Yw.aj.1 o with rfl|rfl|rfl|rfl|h1
 ·exact h.box.lt
 ·exact h.man.lt
 ·exact h.log.lt
 ·exact h.mem.lt _ p_
 ·exact h.mem.lt _ (f_ _ h1)
theorem SvAt.lt (h:SvAt w X S Y V):∀g∈XY X Y,g < (w:Nat):=by
 intro g o
 rcases q_.1 o with h1|h1
 ·exact h.dm.dk.lt g h1
 ·exact h.ylt g h1
theorem SvAt.alen (h:SvAt w X S Y V):Y.A.n=V.st.length:=h.st.now.row.yw.symm
theorem SvAt.tlen (h:SvAt w X S Y V):Y.T.n=V.tabs.length:=h.tabs.now.len
theorem SvAt.plen (h:SvAt w X S Y V):Y.P.n=V.M.v.files.length:=by
 have:=h.row.row.len;unfold bz at this;have e:∀l:List (Int×Int),(l.flatMap fun f=>[Value.int .i64 f.1,Value.int .i64 f.2]).length=l.length *2:=fun l=>by
  induction l with
  |nil=>rfl
  |cons a l o=>rw[P_,e_,o,r_];simp only[r_,R_];omega
 rw[e]at this;omega
theorem SvAt.chg {G:List Nat} (h:SvAt w X S Y V) (c:Chg G w w1) (C:∀g∈G,g∉XY X Y/\NG<=g) (E:∀a,Y.P.a=some a->a.block∉G) (H:uw (XY X Y) w1 fun w=>iv1 w Y.T Y.q V.tabs) (I:uw (XY X Y) w1 fun w=>Its 0 w Y.A.a Y.A.n Y.A.c V.st):SvAt w1 X S Y V:=by
 have z:∀g∈Y.foot,g∉G:=fun g h1 h2=>(C g h2).1 (k_ _ h1);refine⟨h.dm.chg c (fun g o=>⟨fun J=>(C g o).1 (x_ _ J),(C g o).2⟩),h.box.chg c (z _ (Yw.aj.2 (.inl rfl))),h.man.chg c (z _ (Yw.aj.2 (.inr (.inl rfl)))),?_,h.pout,h.log.chg c (z _ (Yw.aj.2 (.inr (.inr (.inl rfl))))),h.mem.chg c (fun g o=>z g (Yw.aj.2 ?_)),h.its,H,I,h.apart,h.ng⟩
 ·exact⟨(nz c h.row.row l_ (fun j hj a O=>E a O)).up c.size,h.row.nc,h.row.cm,h.row.nb,h.row.away⟩
 ·rcases h_.1 o with rfl|o
  ·exact .inr (.inr (.inr (.inl rfl)))
  ·exact .inr (.inr (.inr (.inr o)))
theorem SvAt.below (h:SvAt w X S Y V) (o:Below w w w1):SvAt w1 X S Y V:=
 h.chg (G:=[]) (Chg.of_below o []) (fun g z=>by cases z) (fun a _ C=>by cases C) (h.tabs.below o) (h.st.below o)
def wy1 (X:Dw) (Y:Yw) (w w1:World) (S1:Sd) (V1:Sv):Prop:=∃X1 Y1,X1.d=X.d/\Y1.s=Y.s/\SvAt w1 X1 S1 Y1 V1/\Chg (XY X Y) w w1/\∀g∈XY X1 Y1,g∈XY X Y\/(w:Nat)<=g
def gz1 (X:Dw) (Y:Yw) (w:World) (R:Sd×Sv×Nat) (e:Ending) (w1:World):Prop:=e=.returned (.int .i64 R.2.2)/\wy1 X Y w w1 R.1 R.2.1
theorem wy1.same (h:SvAt w X S Y V) (o:Below w w w1):wy1 X Y w w1 S V:=⟨X,Y,rfl,rfl,h.below o,Chg.of_below o _,fun _ z=>.inl z⟩
theorem wy1.trans (C:X1.d=X.d) (E:Y1.s=Y.s) (c:Chg (XY X Y) w w1) (z:∀g∈XY X1 Y1,g∈XY X Y\/(w:Nat)<=g) (k:wy1 X1 Y1 w1 w2 S2 V2):wy1 X Y w w2 S2 V2:=by
 obtain⟨X2,Y2,H,I,h,c2,o⟩:=k;refine⟨X2,Y2,H.trans C,I.trans E,h,c.trans c2 z,fun g J=>?_⟩
 rcases o g J with h1|h1
 ·exact z g h1
 ·exact .inr (g_ c.size h1)
theorem SvAt.disk (h:SvAt w X S Y V) (I:UpdM X w w1 S1):∃X1,X1.d=X.d/\SvAt w1 X1 S1 Y V/\Chg (XY X Y) w w1/\(∀g∈XY X1 Y,g∈XY X Y\/(w:Nat)<=g):=by
 obtain⟨X1,e,hd,c,H⟩:=I;have E:∀g∈Y.foot,g∉X.foot:=h.apart.x;have z:Chg (XY X Y) w w1:=c.mono fun g o=>.inl (x_ _ o);have C:∀g∈XY X1 Y,g∈XY X Y\/(w:Nat)<=g:=fun g o=>by
  rcases q_.1 o with h1|h1
  ·rcases H g h1 with h2|h2
   ·exact .inl (x_ _ h2)
   ·exact .inr h2
  ·exact .inl (k_ _ h1)
 refine⟨X1,e,⟨hd,by rw[e];exact h.box.chg c (E _ (Yw.aj.2 (.inl rfl))),by rw[e];exact h.man.chg c (E _ (Yw.aj.2 (.inr (.inl rfl)))),h.row.step c H,h.pout,by rw[e];exact h.log.chg c (E _ (Yw.aj.2 (.inr (.inr (.inl rfl))))),h.mem.chg c (fun g o=>E g (Yw.aj.2 ?_)),h.its,h.tabs.step z C,h.st.step z C,⟨fun g o J=>?_,h.apart.s,h.apart.m,h.apart.g⟩,h.ng⟩,z,C⟩
 ·rcases h_.1 o with rfl|o
  ·exact .inr (.inr (.inr (.inl rfl)))
  ·exact .inr (.inr (.inr (.inr o)))
 ·rcases H g J with h1|h1
  ·exact E g o h1
  ·have:=h.ylt g o
   omega
theorem SvAt.ex6 (h:SvAt w X S Y V):Y.m∉X.foot:=h.apart.x _ (Yw.aj.2 (.inr (.inl rfl)))
theorem SvAt.gst (h:SvAt w X S Y V):Gst Y.P Y.m X w S V.M w X:=Gst.start h.dm h.man h.row h.ex6 (h.ng _ (Yw.aj.2 (.inr (.inl rfl))))
theorem SvAt.ew6 (h:SvAt w X S Y V) {M1:Gs} {H:Sl} (k:Gst H Y.m X w S1 M1 w1 X1) (J:H=Y.P\/∀a,H.a=some a->(w:Nat)<=a.block):SvAt w1 X1 S1 { Y with P:=H } { V with M:=M1 }/\Chg (XY X Y) w w1/\∀g∈XY X1 { Y with P:=H },g∈XY X Y\/(w:Nat)<=g:=by
 have hn:∀g∈Y.foot,g∉X.foot:=h.apart.x;have e:=k.acc.e;have hf:=k.acc.f;have c:Chg ([Y.m] ++X.foot) w w1:=k.acc.c;have C:Chg (XY X Y) w w1:=c.mono fun g o=>.inl (by
  rcases q_.1 o with h1|h1
  ·rw[c_.1 h1]
   exact k_ _ (Yw.aj.2 (.inr (.inl rfl)))
  ·exact x_ _ h1)
 have E:∀g∈XY X1 Y,g∈XY X Y\/(w:Nat)<=g:=fun g o=>by
  rcases q_.1 o with h1|h1
  ·rcases hf g h1 with h2|h2
   ·exact .inl (x_ _ h2)
   ·exact .inr h2
  ·exact .inl (k_ _ h1)
 have O:∀g∈Y.foot,g≠Y.m->g∉[Y.m] ++X.foot:=fun g o Q z=>by
  rcases q_.1 z with h1|h1
  ·exact Q (c_.1 h1)
  ·exact hn g o h1
 have I:=h.apart.s;have U:=h.apart.m;refine⟨⟨k.acc.dm,by rw[e];exact h.box.chg c (O _ (Yw.aj.2 (.inl rfl)) (fun e=>I (by rw[e];exact p_))),by rw[e];exact k.man,k.row,fun j hj a ha=>?_,by rw[e];exact h.log.chg c (O _ (Yw.aj.2 (.inr (.inr (.inl rfl)))) (fun e=>U (by rw[<-e];exact p_))),h.mem.chg c (fun g o=>O g (Yw.aj.2 ?_) (fun e=>U (by rw[<-e];exact f_ _ o))),h.its,h.tabs.step C E,h.st.step C E,⟨fun g o z=>?_,I,U,h.apart.g⟩,h.ng⟩,C,E⟩
 ·rcases J with rfl|J
  ·refine h.pout j ?_ a ha
   have l1:=k.row.row.len;have l2:=h.row.row.len;rw[l2,<-l1];exact hj
  ·intro z
   have:=h.ylt _ z;have:=J a ha;omega
 ·rcases h_.1 o with rfl|o
  ·exact .inr (.inr (.inr (.inl rfl)))
  ·exact .inr (.inr (.inr (.inr o)))
 ·rcases hf g z with h1|h1
  ·exact hn g o h1
  ·have:=h.ylt g o
   omega
theorem SvAt.sbox (h:SvAt w X S Y V) (c:Chg [Y.s] w w1) (O:BoxO w1 103 Y.s (Y1.cells X.d V1)) (H:Y1={ Y with A:=Y1.A }) (I:V1={ V with only:=V1.only,st:=V1.st }) (Q:uw (XY X Y) w1 fun w=>Its 0 w Y1.A.a Y1.A.n Y1.A.c V1.st):SvAt w1 X S Y1 V1/\Chg (XY X Y) w w1:=by
 have C:Chg (XY X Y) w w1:=c.mono fun g o=>.inl (by
  rw[c_.1 o];exact k_ _ (Yw.aj.2 (.inl rfl)))
 have E:∀g∈Y.m::Y.g::Y.mm::skF Y.L Y.ns,g∉[Y.s]:=fun g o z=>h.apart.s (by rw[<-c_.1 z];exact o);obtain⟨J,ho,U,hv⟩:∃J:Sl,∃b:Bool,∃l:List It,J=Y1.A/\b=V1.only/\l=V1.st:=⟨_,_,_,rfl,rfl,rfl⟩;obtain⟨q1,q2,q3⟩:=hv;rw[<-q1]at H;rw[<-q2,<-q3]at I;subst H I;refine⟨⟨h.dm.chg c (fun g o=>by rw[c_.1 o];exact⟨h.apart.x _ (Yw.aj.2 (.inl rfl)),h.ng _ (Yw.aj.2 (.inl rfl))⟩),O,h.man.chg c (E _ p_),?_,h.pout,h.log.chg c (E _ (f_ _ p_)),h.mem.chg c (fun g o=>E _ (f_ _ (f_ _ o))),h.its,h.tabs.step C (fun g o=>.inl o),Q,⟨h.apart.x,h.apart.s,h.apart.m,h.apart.g⟩,h.ng⟩,C⟩;exact⟨(nz c h.row.row l_ (fun j hj a ha z=>h.pout j hj a ha (by rw[c_.1 z];exact Yw.aj.2 (.inl rfl)))).up c.size,h.row.nc,h.row.cm,h.row.nb,h.row.away⟩
theorem SvAt.scr (C:SvAt w X S Y V) (h:SvAt w1 X1 S1 Y V) (c:Chg (XY X Y) w w1) (I:∀g∈XY X1 Y,g∈XY X Y\/(w:Nat)<=g) {G:List Nat} (z:∀g∈G,(w:Nat)<=g/\g∉XY X1 Y) (c2:Chg G w1 w2):SvAt w2 X1 S1 Y V:=by
 have c3:Chg (XY X Y) w w2:=c.trans c2 fun g o=>.inr (z g o).1;have O:=C.dm.env.base;have E:∀g∈Y.foot,g∉G:=fun g h1 h2=>(z g h2).2 (k_ _ h1);refine⟨h.dm.chg c2 (fun g o=>⟨fun H=>(z g o).2 (x_ _ H),by have:=(z g o).1;omega⟩),h.box.chg c2 (E _ (Yw.aj.2 (.inl rfl))),h.man.chg c2 (E _ (Yw.aj.2 (.inr (.inl rfl)))),?_,h.pout,h.log.chg c2 (E _ (Yw.aj.2 (.inr (.inr (.inl rfl))))),h.mem.chg c2 (fun g o=>E g (Yw.aj.2 ?_)),h.its,C.tabs.step c3 I,C.st.step c3 I,h.apart,h.ng⟩
 ·refine⟨(nz c2 h.row.row l_ (fun j hj a J H=>?_)).up c2.size,h.row.nc,h.row.cm,h.row.nb,h.row.away⟩
  obtain⟨b,e,q1,_⟩:=C.row.row.cell j hj;rw[J]at e;injection e with e;subst e;have:=(z _ H).1;omega
 ·rcases h_.1 o with rfl|o
  ·exact .inr (.inr (.inr (.inl rfl)))
  ·exact .inr (.inr (.inr (.inr o)))
section
variable {w w1 w2:World} {X X1 X2:Dw} {S S1 S2:Sd} {Y Y1 Y2:Yw} {V V1 V2:Sv}
theorem dz4 (s k:List UInt8) (o:k=Mn.kLog\/k=Mn.kTab):0<=(Mn.number s k).getD 0/\(Mn.number s k).getD 0<=1073741824:=by
 cases h:Mn.number s k with
 |none=>exact⟨by simp,by simp⟩
 |some v=>
  have z:s≠[]:=fun e=>by
   subst e
   rcases o with rfl|rfl<;>
   ·unfold Mn.number at h
    rw[if_neg (by decide)]at h
    cases h
  have:=Mn.gx2 h z;exact⟨by simp;omega,by simp;omega⟩
theorem ew1 (k:List UInt8) (o:k=Mn.kLog\/k=Mn.kTab):∀(l:List (List UInt8)) (a:Int),0<=a->a<=1073741824->0<=l.foldl (fun m s=>max m ((Mn.number s k).getD 0)) a/\l.foldl (fun m s=>max m ((Mn.number s k).getD 0)) a<=1073741824
 |[],a,h1,h2=>⟨h1,h2⟩
 |s::r,a,h1,h2=>by
  obtain⟨h3,h4⟩:=dz4 s k o;simp only[aX_];exact ew1 k o r _ o_ o_
theorem kz15 {P S a oi v} (h:Hv P S a oi v:=by intro w o;(have k0:=(HX.below o).cell 0;simp only[Yw.cells,gE0,gE1]at k0);go_simp;try (with_reducible rfl)):Hv P S a oi v:=h
theorem gj2 (h:SvAt w X S Y V):
  Calls prog 179 #[Y.s] w fun e w'=>e=.returned (if 1073741824 < St.number S then .tuple #[.int .i64 0,.int .i64 65] else .tuple #[.int .i64 (St.number S),.int .i64 0])/\Below w w w':=by
 have J:=fun(k:List UInt8) (hk:k.length<=1000) (W:World) (hb:Below w w W)=>aq3 X S (str k) (by rw[jy];exact hk) W (h.dm.below hb);have z:=J Mn.kLog (by decide);have C:=J Mn.kTab (by decide);rw[kz]at z C;rw[show str Mn.kLog=({ data:=#[108,111,103] }:ByteArray) from rfl]at z;rw[show str Mn.kTab=({ data:=#[116,97,98] }:ByteArray) from rfl]at C;have a8:0<=Mn.greatest S.list Mn.kLog/\Mn.greatest S.list Mn.kLog<=1073741824:=ew1 Mn.kLog (.inl rfl) S.list 0 o_ o_;have a9:0<=Mn.greatest S.list Mn.kTab/\Mn.greatest S.list Mn.kTab<=1073741824:=ew1 Mn.kTab (.inr rfl) S.list 0 o_ o_;unfold St.number;generalize Mn.greatest S.list Mn.kLog=a at *;generalize Mn.greatest S.list Mn.kTab=b at *;obtain⟨c,O⟩:=n_ (max a b);have a':0<=c/\c<=1073741824:=o_
 rw[<-O];have H1:=H_ z;have H2:=H_ C;have HX:=H_ h.box;have HC:=H_ O;clear J z C h O
 by_cases Q:1073741824 < c+1
 all_goals
 ·simp only[Q,if_true,if_false]
  go_enter func179,ntmps179;go_wp2_with fail;refine w_h w fun o=>?_;refine w_v 0 o ?_ (k:=kz15);go_simp;refine w_v 1 o ?_ (k:=kz15);go_simp;refine w_v 2 o ?_ (k:=kz15);go_simp;refine w_v 3 o ?_ (k:=kz15);go_simp;refine w_v 5 o ?_ (k:=kz15);go_simp;refine w_v 6 o ?_ (k:=kz15);go_simp;refine w_v 7 o ?_ (k:=kz15);go_simp;refine w_v 8 o ?_ (k:=kz15);go_simp;refine w_r 4 fun K E=>?_;go_simp
  with_reducible refine(H1.out _ o).mono ?_
  rintro e w3 ⟨rfl,H⟩;go_simp;refine E.out _ _ (az o H) ?_;clear o E K;intro o;go_simp;refine w_r 9 fun K E=>?_;go_simp
  with_reducible refine(H2.out _ o).mono ?_
  rintro e w4 ⟨rfl,I⟩;go_simp;refine E.out _ _ (az o I) ?_;clear o E K;intro o;go_simp;refine w_r 10 fun K E=>?_
  skip
  go_simp;refine E.out _ _ o ?_;clear o E K;intro o;go_simp;refine w_v 11 o ?_ (k:=kz15);go_simp;refine w_v 12 o ?_ (k:=kz15);go_simp;refine w_d ?_;have hw:IntKind.i64.wrap (c+1)=c+1:=M_ _ o_;rw[<-HC.out,hw];have U:=az (az (ax b0_) H) I;clear o H I H1 H2 HX;go_wp2;go_ret2;exact⟨rfl,U⟩
theorem sq2 (h:SvAt w X S Y V) (er:Nat):
  Calls prog 134 #[Y.s,(er:Int)] w fun e w'=>e=.returned (.int .i64 er)/\SvAt w' X S Y { V with only:=true }/\Chg (XY X Y) w w':=by
 have o:=b_ w (.cells #[Y.s] 55);have a4:=h.box.lt;have h1:=h.below o;have hp:(w.alloc (.cells #[Y.s] 55)).cell? (w:Nat)=some (.pointer (some Y.s)):=by simp
 obtain⟨W,Q⟩:=n_ (w.alloc (.cells #[Y.s] 55));rw[<-Q]at o h1 hp;have HV:=H_ Q;clear Q;have c7:=h1.box.cell 7;have c8:=h1.box.cell 8;have z:=h1.box.cell 10;simp only[Yw.cells,gE0,gE1]at c7 c8 z;have a5:∀(fn:Fn) (first cap:Array Value) (w:World),(Instr.makeFunc fn first cap).run prog w=.ok (.func fn first cap) w:=fun _ _ _ _=>rfl
 cases I:V.only with
 |false=>
  rw[I]at c7 z;simp only[ai_,if_false]at c7;have E:=Sonce.do_first Y.s ⟨w,0,none⟩ (by simp;omega) _ W hp c7 c8 z (h1.box.free 7) (h1.box.free 8) (h1.box.free 10);have J:=((((h1.box.store 8 (.int .i32 1)).store 10 (.bool true)).drew.store 7 (.int .u32 1)).store 8 (.int .i32 0));have H:Chg [Y.s] W ((((W.setCell (Y.s,8) (.int .i32 1)).setCell (Y.s,10) (.bool true)).drew.setCell (Y.s,7) (.int .u32 1)).setCell (Y.s,8) (.int .i32 0)):=(((((Chg.refl [Y.s] W).setCell _ (.inl s_)).setCell _ (.inl s_)).drew).setCell _ (.inl s_)).setCell _ (.inl s_);have C:=h1.sbox (Y1:=Y) (V1:={ V with only:=true }) H J rfl rfl (h1.st.step (H.mono fun g O=>.inl (by rw[c_.1 O];exact k_ _ (Yw.aj.2 (.inl rfl)))) (fun g O=>.inl O));have U:=H_ (d_ C.1 ((Chg.of_below o (XY X Y)).trans C.2 (fun g O=>.inl O)));clear C H J I h h1 o z;go_enter func134,ntmps134;go_wp2_with fail;rw[<-HV.out];refine E.mono ?_;rintro e w2 ⟨rfl,rfl⟩;go_wp2;go_ret;exact⟨rfl,U⟩
 |true=>
  rw[I]at c7;simp only[if_true]at c7;have E:=Once.do_done ⟨Y.s,7,none⟩ 1 o_ (.func (.func 191) #[] #[(w:Nat)]) W c7;have e:({ V with only:=true }:Sv)=V:=by cases V;simp at I;simp[I]
  have U:=H_ (d_ (show SvAt W X S Y { V with only:=true } by rw[e];exact h1) (Chg.of_below o (XY X Y)));clear I h h1 o z e;go_enter func134,ntmps134;go_wp2_with fail;rw[<-HV.out];refine E.mono ?_;rintro e w2 ⟨rfl,a0⟩;obtain rfl:=a0.symm;go_wp2;go_ret;exact⟨rfl,U⟩
def hval (lev n:Int) (f:Nat):Value:=.agg #[lev,n,f]
def gj3 (X:Dw) (Y:Yw) (w:World) (V:Sv) (l:List It) (lev n:Int) (R:Sd×Nat) (e:Ending) (w':World):Prop:=∃(a b:Int) (p:Option Addr) (X':Dw),e=.returned (.tuple #[.agg #[a,b,.pointer p],(R.2:Int)])/\X'.d=X.d/\SvAt w' X' R.1 Y V/\Chg (XY X Y) w w'/\(∀g∈XY X' Y,g∈XY X Y\/(w:Nat)<=g)/\(R.2=0->∃f,a=lev/\b=n/\p=some ⟨f,0,none⟩/\∀G,(∀g∈G,g∈XY X' Y\/g < (w:Nat))->uw G w' fun W=>TbAt W f (Tb.rows l))
structure Way (w0:World) (X0:Dw) (Y:Yw) (V:Sv) (w:World) (X:Dw) (S:Sd):Prop where
 at_:SvAt w X S Y V
 d:X.d=X0.d
 c:Chg (XY X0 Y) w0 w
 f:∀g∈XY X Y,g∈XY X0 Y\/(w0:Nat)<=g
theorem Way.start (h:SvAt w X S Y V):Way w X Y V w X S:=⟨h,rfl,Chg.refl _ _,fun _ o=>.inl o⟩
theorem Way.below {w0:World} {X0:Dw} (k:Way w0 X0 Y V w X S) (o:Below w w w1):Way w0 X0 Y V w1 X S:=⟨k.at_.below o,k.d,k.c.trans (Chg.of_below o []) (fun g z=>by cases z),k.f⟩
theorem Way.disk {w0:World} {X0:Dw} (k:Way w0 X0 Y V w X S) (o:UpdM X w w1 S1):∃X1,X1.d=X.d/\Way w0 X0 Y V w1 X1 S1/\Chg (XY X Y) w w1/\∀g∈XY X1 Y,g∈XY X Y\/(w:Nat)<=g:=by
 obtain⟨X1,e,h1,c1,f1⟩:=k.at_.disk o;refine⟨X1,e,⟨h1,e.trans k.d,k.c.trans c1 k.f,fun g z=>?_⟩,c1,f1⟩
 rcases f1 g z with q|q
 ·exact k.f g q
 ·exact .inr (g_ k.c.size q)
theorem Way.scr {w0:World} {X0:Dw} {z:Sd} (C:SvAt w0 X0 z Y V) (k:Way w0 X0 Y V w X S) {G:List Nat} (o:∀g∈G,(w0:Nat)<=g/\g∉XY X Y) (c2:Chg G w w1):Way w0 X0 Y V w1 X S:=
 ⟨C.scr k.at_ k.c k.f o c2,k.d,k.c.trans c2 fun g E=>.inr (o g E).1,k.f⟩
theorem Way.upd {w0:World} {X0:Dw} (k:Way w0 X0 Y V w X S):wy1 X0 Y w0 w S V:=⟨X,Y,k.d,rfl,k.at_,k.c,k.f⟩
theorem cg3 (g:Nat) (w:World) (a b c:Value):Chg [g] w (((w.setCell g a).setCell (g,1) b).setCell (g,2) c):=
 (((Chg.refl [g] w).setCell _ (.inl s_)).setCell _ (.inl s_)).setCell _ (.inl s_)
theorem Tb.yq3 {l:List It} (h:l.length<=2000):(Tb.make l).length<=100000:=by
 have h1:(Tb.rows l).length<=100:=by
  have:=Tb.eq2 20 o_ l.length l;unfold Tb.rows;omega
 have h2:=Tb.xj1 (Tb.rows l) (fun r o=>(Tb.vk2 20 o_ _ _ r o).2.1);have h3:=Tb.uw1 0 (Tb.rows l);have h4:=Tb.uv3 l h;unfold Tb.make;simp only[e_,Fr.oq];have z:=Pn.jq (Tb.blocks (Tb.rows l)).length;have C:=Pn.jq ((Tb.blocks (Tb.rows l)).length+((Tb.index 0 (Tb.rows l)).length+12));have E:=Pn.jq l.length;omega
theorem tk1 (S:Sd):1<=St.number S/\St.number S<=1073741825:=by
 have o:0<=Mn.greatest S.list Mn.kLog/\Mn.greatest S.list Mn.kLog<=1073741824:=ew1 Mn.kLog (.inl rfl) S.list 0 o_ o_;have z:0<=Mn.greatest S.list Mn.kTab/\Mn.greatest S.list Mn.kTab<=1073741824:=ew1 Mn.kTab (.inr rfl) S.list 0 o_ o_;unfold St.number;omega
theorem wk1 (k:List UInt8) (n:Int):(Mn.name k n).length<=1000:=by
 by_cases o:Mn.name k n=[]
 ·rw[o];simp
 ·have:=Mn.xw2 o
  omega
theorem pk2 (h:SvAt w X S Y V) (L:Option Addr) (m d:Nat) (l:List It) (hm:m<=2000) (l2:m<=d) (hq:Row w w L m 5 (itc l)) (hf:∀x∈l,x.fit) (e4:Tb.good l=true) (lev:Int) (o9:S.load<=1000000000000):
  Calls prog 120 #[Y.s,.slice L m d,lev] w (gj3 X Y w V l lev (St.number S) (St.write S l)):=by
 have e5:=hq.yw;have a1:=b_ w (.cells #[.int .i64 0,.int .i64 0,.pointer none] 178);have U:=BoxO.new w #[.int .i64 0,.int .i64 0,.pointer none] 178;obtain⟨W,hW⟩:=n_ (w.alloc (.cells #[.int .i64 0,.int .i64 0,.pointer none] 178));obtain⟨H,d6⟩:=n_ (w:Nat);rw[<-d6]at U;rw[<-hW]at a1 U;have d0:∀g∈XY X Y,g < (w:Nat):=h.lt;have k1:Way w X Y V W X S:=(Way.start h).below a1;have e6:=sj2 L m d l W o_ l2 ((hq.below a1).up a1.size) hf;obtain⟨n,hn⟩:=n_ (St.number S);have l6:=tk1 S;have l7:(Mn.name Mn.kTab n).length<=1000:=wk1 _ _;obtain⟨R,z⟩:=n_ (St.write S l);unfold St.write at z;have e7:St.write S l=R:=by rw[z];rfl
 rw[e7];rw[<-hn]at z l6 ⊢;have e9:l.length<=2000:=o_
 have e':=Tb.yq3 e9;have f0:=Tb.rv4 e4 hf;have l8:=U.lt;have d1:∀(w':World) (X':Dw) (S':Sd) (er:Nat),Way w X Y V w' X' S'->H∉XY X' Y->er≠0->R=(S',er)->gj3 X Y w V l lev n R (.returned (.tuple #[.agg #[.int .i64 0,.int .i64 0,.pointer none],(er:Int)])) (((w'.setCell H (.int .i64 0)).setCell (H,1) (.int .i64 0)).setCell (H,2) (.pointer none)):=by
  intro w' X' S' er k hx l' he;have J:=Way.scr h k (G:=[H]) (fun g I=>by rw[c_.1 I];exact⟨o_,hx⟩) (cg3 H w' (.int .i64 0) (.int .i64 0) (.pointer none));rw[he];exact⟨_,_,_,_,rfl,J.d,J.at_,J.c,J.f,fun h0=>absurd h0 l'⟩
 have a2:∀(w':World) (X':Dw) (S':Sd) (er f:Nat),Way w X Y V w' X' S'->H∉XY X' Y->(∀G W,(∀g∈G,g∈XY X' Y\/g < (w:Nat))->Chg G (((w'.setCell H lev).setCell (H,1) n).setCell (H,2) f) W->TbAt W f (Tb.rows l))->R=(S',er)->gj3 X Y w V l lev n R (.returned (.tuple #[hval lev n f,(er:Int)])) (((w'.setCell H lev).setCell (H,1) n).setCell (H,2) f):=by
  intro w' X' S' er f k hx ht he;have J:=Way.scr h k (G:=[H]) (fun g I=>by rw[c_.1 I];exact⟨o_,hx⟩) (cg3 H w' (.int .i64 lev) (.int .i64 n) (.pointer (some f)));rw[he];exact⟨_,_,_,_,rfl,J.d,J.at_,J.c,J.f,fun _=>⟨f,rfl,rfl,rfl,fun G hG W c=>ht G W hG c⟩⟩
 have C:=H_ d1;have E:=H_ a2;clear d1 a2;have HV:=H_ hW;have HG:=H_ d6;have f2:=H_ e6;have HR:=H_ z;have f3:=H_ f0;have HN:=H_ hn;have HX:=H_ d0;have f4:=H_ (d_ e5 e');clear e6 z e7 f0 hn d0 e' e9 e5 hq a1 d6 hW;go_enter func120,ntmps120;go_wp2_with fail;rw[<-HV.out,<-HG.out]
 refine m_ f2 ?_
 rintro e w2 (⟨_,A',M,c',rfl,ho,m2,m3,f6⟩|⟨d2,_⟩)
 rotate_left
 ·rw[e4]at d2
  cases d2
 have k2:=k1.below f6;have f7:uw (XY X Y) w2 fun W'=>BoxO W' 178 H #[.int .i64 0,.int .i64 0,.pointer none].toList/\Row W' W' A' M 1 (bts (Tb.make l)):=by
  obtain⟨P,c0,q1,q2,q3,q4⟩:=ay ho;injection q1 with q1 _ _;subst q1;have m6:=U.below f6;have m7:=Row.own ho;refine uw.and (fun W' c=>m6.chg c (fun hm=>?_)) (fun W' c=>(nz c m7 l_ (fun j _ a O hm=>?_)).up c.size)
  ·have:=HX.out _ hm
   have:=HG.out;omega
  ·have:=HX.out _ hm
   have:=(q4 a O).1;have:=HG.out;have:=U.lt;omega
 have m8:Hid (∀a,A'=some a->W.heap.size<=a.block/\a.block < (w2:Nat)):=H_ (by
  obtain⟨P,c0,q1,q2,q3,q4⟩:=ay ho;injection q1 with q1 _ _;subst q1;exact fun a O=>⟨(q4 a O).1,(q4 a O).2.1⟩)
 have g4:Hid (M=(Tb.make l).length):=H_ (by
  have:=ho.1;rw[uq]at this;omega)
 have g8:=H_ (gj2 k2.at_);have p2:=H_ k1;clear k1 U f2 ho;go_wp2_with fail
 refine m_ g8 ?_
 rintro e w3 ⟨rfl,a'⟩;rw[<-HN.out];have k3:=k2.below a';have d7:=f7.below a';have g':∀X',(∀g∈XY X' Y,g∈XY X Y\/(w2:Nat)<=g)->H∉XY X' Y:=fun X' hf hm=>by
  have q1:=HG.out;have q2:=f7.now.1.lt
  rcases hf _ hm with q|q
  ·have:=HX.out _ q
   omega
  ·omega
 have b0:=H_ g';clear g';have z:=HR.out
 by_cases Q:1073741824 < n
 ·rw[if_pos Q]
  rw[if_pos Q]at z;have HZ:=H_ (C.out _ _ _ 65 k3 (b0.out X (fun g I=>.inl I)) o_ z);have o:=d7.now.1;have s0:=o.c0;have s1:=o.c1;have s2:=o.c2;have z0:=o.free 0;have z1:=o.free 1;have z2:=o.free 2;clear o;clear C E z;go_wp2;exact bodyPost_ret (v:=.tuple #[.agg #[.int .i64 0,.int .i64 0,.pointer none],.int .i64 (65:Int)]) (by simp[results,go_sem, *]) rfl HZ
 ·rw[if_neg Q]
  rw[if_neg Q]at z;have a4:=name_any (str Mn.kTab) (by rw[jy];decide) n o_ w3 k3.at_.dm.env;rw[kz]at a4;rw[show str Mn.kTab=({ data:=#[116,97,98] }:ByteArray) from rfl]at a4;obtain⟨nm,d3⟩:=n_ (Mn.name Mn.kTab n);rw[<-d3]at a4 z l7;have h6:=H_ a4;have h7:=H_ z;clear a4 d3 z;go_wp2_with fail
  refine m_ h6 ?_
  rintro e w4 ⟨rfl,b1⟩;have k4:=k3.below b1;have h8:=d7.below b1;have c0:=k4.at_.box.cell 0;simp only[Yw.cells,gE0,gE1]at c0;have a5:=(Acc.start (F:=[]) k4.at_.dm).create (str nm) (by rw[jy];unfold maxLen;omega) o_;rw[kz]at a5;obtain⟨a,O⟩:=n_ (S.create nm);have z:=h7.out;rw[<-O]at a5 z;obtain⟨S5,b2⟩:=a;simp only at a5 z;have h9:=H_ a5;have d9:=H_ z;have b3:=H_ (show (w2:Nat)<=(w4:Nat) from g_ a'.size b1.size);clear a5 z O h7 HR a' b1 g8 h6 k3 k2 d7;go_wp2_with fail
  refine m_ h9 ?_
  rintro e w5 ⟨rfl,Xq,hq⟩;obtain⟨X5,-,k5,d',a6⟩:=k4.disk hq.updM;have b5:=h8.step d' a6;have n5:H∉XY X5 Y:=b0.out X5 (fun g I=>(a6 g I).imp id (fun q=>g_ b3.out q))
  by_cases i0:b2=0
  ·subst i0
   have z:=d9.out;rw[if_neg s_]at z;have c0:=k5.at_.box.cell 0;simp only[Yw.cells,gE0,gE1]at c0;have a7:=(Acc.start (F:=[]) k5.at_.dm).append (str nm) (by rw[jy];unfold maxLen;omega) A' M c' (Tb.make l) (by have:=g4.out;have:=f4.2;omega) b5.now.2 (fun a O hm=>by
    have q1:=m8.out a O;have q2:=HV.out;have q3:=l8;have q4:=HG.out
    rcases a6 _ (x_ _ hm) with q|q
    ·have:=HX.out _ q
     omega
    ·have:=b3.out
     omega)
   rw[kz]at a7;obtain⟨a,O⟩:=n_ (S5.append nm (Tb.make l));rw[<-O]at a7 z;obtain⟨S6,b6⟩:=a;simp only at a7 z;have i1:=H_ a7;have e0:=H_ z;have n6:=H_ (fun g I=>(a6 g I).imp id (fun q=>g_ b3.out q):∀g∈XY X5 Y,g∈XY X Y\/(w2:Nat)<=g);have i2:=H_ (show (w2:Nat)<=(w5:Nat) from g_ b3.out d'.size);clear a7 z O d9 h9 hq d' a6 k4 h8;go_wp2_with fail
   refine m_ i1 ?_
   rintro e w6 ⟨rfl,Xq,hq⟩;obtain⟨X6,-,k6,e1,e2⟩:=k5.disk hq.updM;have a8:=b5.step e1 e2;have i5:=H_ (fun g I=>(by
    rcases e2 g I with q|q
    ·exact n6.out g q
    ·exact .inr (g_ i2.out q)):∀g∈XY X6 Y,g∈XY X Y\/(w2:Nat)<=g)
   have n8:H∉XY X6 Y:=b0.out X6 i5
   by_cases i6:b6=0
   ·subst i6
    have z:=e0.out;rw[if_neg s_]at z;have i7:=gz4 A' M c' (Tb.make l) w6 (by have:=g4.out;have:=f4.2;omega) m2 m3 a8.now.2;have i8:=H_ i7;have i9:=H_ z;have n9:=H_ (show (w2:Nat)<=(w6:Nat) from g_ i2.out e1.size);clear i7 z i1 e0 hq e1 e2 k5 b5 c0;go_wp2_with fail
    refine m_ i8 ?_
    rintro e w7 ⟨b7,(⟨i',_⟩|⟨rs,b8,f,rfl,j0⟩)⟩
    ·rw[f3.out]at i'
     cases i'
    rw[f3.out]at b8;injection b8 with b8;subst b8;have k7:=k6.below b7;have j2:=a8.below b7;have d4:=k6.at_.lt;have d5:H < (w6:Nat):=a8.now.1.lt;have j3:∀W,Chg (List.range w6) w7 W->TbAt W f (Tb.rows l):=fun W c=>j0 W (qy3.dk6 c fun g I=>bd_.1 I);have b9:=H_ (d_ d4 (d_ d5 (show (w:Nat)<=(w6:Nat) from k6.c.size)));have c0:=k7.at_.box.cell 0;simp only[Yw.cells,gE0,gE1]at c0;have a9:=(Acc.start (F:=[]) k7.at_.dm).sync (str nm) (by rw[jy];unfold maxLen;omega);rw[kz]at a9;obtain⟨a,O⟩:=n_ (S6.sync nm);have z:=i9.out;rw[<-O]at a9 z;obtain⟨S8,j4⟩:=a;simp only at a9 z;have j5:=H_ a9;have j6:=H_ z;have j7:=H_ j3;have n':=H_ (show (w2:Nat)<=(w7:Nat) from g_ n9.out b7.size);clear a9 z O i9 i8 j0 b7 k6 a8 d4 d5 j3;go_wp2_with fail
    refine m_ j5 ?_
    rintro e w8 ⟨rfl,Xq,hq⟩;obtain⟨X8,-,k8,e3,b'⟩:=k7.disk hq.updM;have j8:=j2.step e3 b';have j9:H∉XY X8 Y:=b0.out X8 (fun g I=>by
     rcases b' g I with q|q
     ·exact i5.out g q
     ·exact .inr (g_ n'.out q))
    have hz:=E.out w8 X8 S8 j4 f k8 j9 (fun G W hG cW=>j7.out W (((e3.mono fun g I=>.inl (bd_.2 (b9.1 g I))).trans (cg3 H w8 (.int .i64 lev) (.int .i64 n) (.pointer (some f))) (fun g I=>.inl (by rw[c_.1 I];exact bd_.2 b9.2.1))).trans cW (fun g I=>by
     rcases hG g I with q|q
     ·exact(b' g q).imp (fun q=>bd_.2 (b9.1 g q)) id
     ·exact .inl (bd_.2 (L_ q b9.2.2))))) j6
    have HZ:=H_ hz;have o:=j8.now.1;have s0:=o.c0;have s1:=o.c1;have s2:=o.c2;have z0:=o.free 0;have z1:=o.free 1;have z2:=o.free 2;clear o hz E C j9 e3 b' k8 j8 j7 hq k7 j2 c0 j5 j6;go_wp2;exact bodyPost_ret (v:=.tuple #[hval lev n f,(j4:Int)]) (by simp[results,hval,go_sem, *]) rfl HZ
   ·have p8:((b6:Int)==0)=false:=by simp;omega
    have z:=e0.out;rw[if_pos i6]at z;have HZ:=H_ (C.out _ _ _ b6 k6 n8 (by assumption) z);have o:=a8.now.1;have s0:=o.c0;have s1:=o.c1;have s2:=o.c2;have z0:=o.free 0;have z1:=o.free 1;have z2:=o.free 2;clear o;clear C E z;go_wp2;exact bodyPost_ret (v:=.tuple #[.agg #[.int .i64 0,.int .i64 0,.pointer none],.int .i64 ((b6:Nat):Int)]) (by simp[results,go_sem, *]) rfl HZ
  ·have p9:((b2:Int)==0)=false:=by simp;omega
   have z:=d9.out;rw[if_pos i0]at z;have HZ:=H_ (C.out _ _ _ b2 k5 n5 (by assumption) z);have o:=b5.now.1;have s0:=o.c0;have s1:=o.c1;have s2:=o.c2;have z0:=o.free 0;have z1:=o.free 1;have z2:=o.free 2;clear o;clear C E z;go_wp2;exact bodyPost_ret (v:=.tuple #[.agg #[.int .i64 0,.int .i64 0,.pointer none],.int .i64 ((b2:Nat):Int)]) (by simp[results,go_sem, *]) rfl HZ
def iw4 (X:Dw) (Y:Yw) (w w':World) (S':Sd) (V':Sv):Prop:=∃X' P',X'.d=X.d/\SvAt w' X' S' { Y with P:=P' } V'/\Chg (XY X Y) w w'/\(∀g∈XY X' Y,g∈XY X Y\/(w:Nat)<=g)/\(P'=Y.P\/∀a,P'.a=some a->(w:Nat)<=a.block)
theorem kz17 {P S a oi v} (h:Hv P S a oi v:=by intro w o;(have k1:=o.1.cell 1;have e0:=o.2.cell 0;have e1:=o.2.cell 1;have e2:=o.2.cell 2;have e3:=o.2.cell 3;have e4:=o.2.cell 4;have e5:=o.2.cell 5;have e6:=o.2.cell 6;simp only[Yw.cells,gE0,gE1]at k1 e0 e1 e2 e3 e4 e5 e6);go_simp;try (with_reducible rfl)):Hv P S a oi v:=h
theorem jz3 (h:SvAt w X S Y V) (x:Ed) (D:Option Addr) (dm dd:Nat) (A2:Option Addr) (Q c2:Nat) (d2:dm<=1000000) (d3:Q<=1000000) (b5:Row w w D dm 1 (pz x.drop)) (b6:Row w w A2 Q 2 (bz x.add)) (d4:V.M.v.files.length<=40)
  (d5:V.M.count<=1000000000) (d6:V.M.name.length<=1000):
  Calls prog 69 #[Y.s,x.val D dm dd A2 Q c2] w fun e w'=>e=.returned (.int .i64 ((St.saved S V x).2.2:Int))/\iw4 X Y w w' (St.saved S V x).1 (St.saved S V x).2.1:=by
 have z:=b_ w (.cells #[.slice D dm dd,.slice A2 Q c2,x.log,[x.floor],[x.cert],[x.at_],[x.lease]] 135);have U:=BoxO.new w #[.slice D dm dd,.slice A2 Q c2,x.log,[x.floor],[x.cert],[x.at_],[x.lease]] 135;have h1:=h.below (ax z);have I:=(b5.below (ax z)).up z.size;have J:=(b6.below (ax z)).up z.size;have a6:∀g∈XY X Y,g < (w:Nat):=h.lt;obtain⟨W,hW⟩:=n_ (w.alloc (.cells #[.slice D dm dd,.slice A2 Q c2,x.log,[x.floor],[x.cert],[x.at_],[x.lease]] 135));obtain⟨ge,a7⟩:=n_ (w:Nat);rw[<-a7]at U;rw[<-hW]at z U h1 I J;have O:=oz4 x D dm dd A2 Q c2 d2 d3 I J (by rw[h.plen];exact d4) d5 d6 h1.gst;obtain⟨R,hR⟩:=n_ (Gw.save S V.M x);have hT:St.saved S V x=(R.1,{ V with M:=R.2.1,only:=V.only||R.2.1.broken },R.2.2):=by rw[hR];rfl
 rw[<-hR]at O;rw[hT];obtain⟨S1,M1,er⟩:=R;show Calls prog 69 #[Y.s,x.val D dm dd A2 Q c2] w fun e w'=>e=.returned (.int .i64 er)/\iw4 X Y w w' S1 { V with M:=M1,only:=V.only||M1.broken }
 unfold kx1 at O;simp only at O;have a5:Y.s∉[Y.m] ++X.foot/\ge∉[Y.m] ++X.foot:=⟨fun hm=>by
  rcases q_.1 hm with q|q
  ·exact h.apart.s (by rw[c_.1 q];exact p_)
  ·exact h.apart.x _ (Yw.aj.2 (.inl rfl)) q,fun hm=>by
  rcases q_.1 hm with q|q
  ·have:=a6 Y.m (k_ _ (Yw.aj.2 (.inr (.inl rfl))))
   have:=c_.1 q;omega
  ·have:=a6 _ (x_ _ q)
   omega⟩
 have HV:=H_ hW;have HG:=H_ a7;have a9:=H_ O;have HO:=H_ a5;have H1:=H_ h1;have HB:=H_ (Chg.of_below (ax z) (XY X Y));have a':Hid (BoxO W.drew 103 Y.s (Y.cells X.d V)/\BoxO W.drew 135 ge #[.slice D dm dd,.slice A2 Q c2,.int .i64 x.log,.int .u64 x.floor,.int .u64 x.cert,.int .u64 x.at_,.int .u64 x.lease].toList):=H_ ⟨h1.box,U⟩;clear O hW a7 h h1 b5 b6 I J z U a5 a6 hR hT;unfold Ed.val at *;go_enter func69,ntmps69;go_wp2_with fail;rw[<-HV.out,<-HG.out];refine wp_region_held_drew (S:=fun w'=>BoxO w' 103 Y.s (Y.cells X.d V)/\BoxO w' 135 ge #[.slice D dm dd,.slice A2 Q c2,.int .i64 x.log,.int .u64 x.floor,.int .u64 x.cert,.int .u64 x.at_,.int .u64 x.lease].toList) rfl a'.out (fun o=>?_);refine w_v 0 o ?_ (k:=kz17);go_simp;refine w_v 1 o ?_ (k:=kz17);go_simp;refine w_v 2 o ?_ (k:=kz17);go_simp;refine w_v 3 o ?_ (k:=kz17);go_simp;refine w_v 4 o ?_ (k:=kz17);go_simp;refine w_r 5 fun K hK=>?_;go_simp
 refine m_ a9 ?_
 rintro e w3 ⟨rfl,P3,X3,h3,a0⟩;go_simp;refine hK.out _ _ ⟨o.1.chg h3.acc.c HO.1,o.2.chg h3.acc.c HO.2⟩ ?_;clear o hK K;intro o;go_simp;refine w_v 6 o ?_ (k:=kz17);go_simp;refine w_d ?_;obtain⟨hs,b0,b1⟩:=H1.ew6 h3 a0;have c1:=hs.box.cell 1;simp only[Yw.cells,gE0,gE1]at c1;have E:=cy3 X3.d hs.man;have b8:=h3.acc.e;have a1:=HB.trans b0 (fun g hg=>.inl hg);have a2:∀g∈XY X3 { Y with P:=P3 },g∈XY X Y\/(w:Nat)<=g:=fun g hg=>(b1 g hg).imp id (fun q=>g_ HB.size q);have a4:P3=Y.P\/∀a,P3.a=some a->(w:Nat)<=a.block:=a0.imp id (fun q a ha=>g_ HB.size (q a ha));have e':=H_ a4
 cases H:M1.broken with
 |false=>
  rw[H]at E;have C:iw4 X Y w w3 S1 { V with M:=M1,only:=V.only||M1.broken }:=⟨X3,P3,b8,by rw[H,cg_];exact hs,a1,a2,a4⟩;have HF:=H_ C;clear H;have b2:=H_ E;clear E hs b0 b1 a0 o a' a9 H1 C a1 a2 a4 h3;go_wp2_with fail;refine b2.mono ?_;rintro e w4 ⟨rfl,rfl⟩;go_wp2;go_ret;exact⟨rfl,HF⟩
 |true=>
  rw[H]at E;have b9:=sq2 hs er;have b2:=H_ E;have b':=H_ b9;have f1:=H_ a1;have c9:=H_ a2;clear E hs b0 b1 a0 o a' a9 H1 b9 a1 a2 a4 h3;go_wp2_with fail;refine b2.mono ?_;rintro e w4 ⟨rfl,rfl⟩;go_wp2_with fail;refine b'.mono ?_;rintro e w5 ⟨rfl,h5,d0⟩;have C:iw4 X Y w w5 S1 { V with M:=M1,only:=V.only||M1.broken }:=⟨X3,P3,b8,by rw[H,Bool.or_true];exact h5,f1.trans d0 c9,c9,e'⟩;have HF:=H_ C;clear C h5 d0 b' H;go_wp2;go_ret;exact⟨rfl,HF⟩
def vy1 (B:Nat) (X:Dw) (Y:Yw) (w w1:World) (S1:Sd) (V1:Sv):Prop:=∃X1 Y1,X1.d=X.d/\Y1.s=Y.s/\SvAt w1 X1 S1 Y1 V1/\Chg (XY X Y) w w1/\∀g∈XY X1 Y1,g∈XY X Y\/B<=g
theorem wy1.toB {B:Nat} (h:wy1 X Y w w1 S V) (o:B<=(w:Nat)):vy1 B X Y w w1 S V:=let ⟨X1,Y1,a,b,c,d,e⟩:=h;⟨X1,Y1,a,b,c,d,fun g z=>(e g z).imp id (g_ o)⟩
theorem vy1.trans {B:Nat} (C:X1.d=X.d) (E:Y1.s=Y.s) (c:Chg (XY X Y) w w1) (z:∀g∈XY X1 Y1,g∈XY X Y\/(w:Nat)<=g) (H:B<=(w:Nat)) (k:vy1 B X1 Y1 w1 w2 S2 V2):vy1 B X Y w w2 S2 V2:=by
 obtain⟨X2,Y2,I,J,h,c2,o⟩:=k;refine⟨X2,Y2,I.trans C,J.trans E,h,c.trans c2 z,fun g O=>?_⟩
 rcases o g O with h1|h1
 ·exact(z g h1).imp id (g_ H)
 ·exact .inr h1
def by6 (B:Nat) (w:World) (X:Dw) (Y:Yw) (V:Sv) (K:Nat) (capt:Array Value) (F:Sv->Sv):Prop:=∀w1 X1 P1 S1 M1 b,X1.d=X.d->Chg (XY X Y) w w1->(∀g∈XY X1 Y,g∈XY X Y\/(w:Nat)<=g)->(P1=Y.P\/∀a,P1.a=some a->(w:Nat)<=a.block)->SvAt w1 X1 S1 { Y with P:=P1 } { V with M:=M1,only:=b }->
 Calls prog K capt w1 fun e w'=>e=.returned (.tuple #[])/\vy1 B X1 { Y with P:=P1 } w1 w' S1 (F { V with M:=M1,only:=b })
def pw5 (w:World) (X:Dw) (Y:Yw) (V:Sv) (K:Nat) (capt:Array Value) (R:World->Dw->Sl->Sd->Gs->Bool->World->Prop):Prop:=∀w1 X1 P1 S1 M1 b,X1.d=X.d->Chg (XY X Y) w w1->(∀g∈XY X1 Y,g∈XY X Y\/(w:Nat)<=g)->(P1=Y.P\/∀a,P1.a=some a->(w:Nat)<=a.block)->SvAt w1 X1 S1 { Y with P:=P1 } { V with M:=M1,only:=b }->
 Calls prog K capt w1 fun e w'=>e=.returned (.tuple #[])/\R w1 X1 P1 S1 M1 b w'
def bw2 (w:World) (X:Dw) (Y:Yw) (V:Sv) (F:Sv->Sv) (R:World->Dw->Sl->Sd->Gs->Bool->World->Prop) (T:Sd×Sv×Nat) (e:Ending) (w':World):Prop:=
 e=.returned (.int .i64 T.2.2)/\∃w1 X1 P1 S1 M1 b,X1.d=X.d/\Chg (XY X Y) w w1/\(∀g∈XY X1 Y,g∈XY X Y\/(w:Nat)<=g)/\(P1=Y.P\/∀a,P1.a=some a->(w:Nat)<=a.block)/\SvAt w1 X1 S1 { Y with P:=P1 } { V with M:=M1,only:=b }/\
  ((w'=w1/\T.1=S1/\T.2.1={ V with M:=M1,only:=b })\/(R w1 X1 P1 S1 M1 b w'/\T.1=S1/\T.2.1=F { V with M:=M1,only:=b }))
theorem ax3 (h:SvAt w X S Y V) (x:Ed) (D:Option Addr) (dm dd:Nat) (A2:Option Addr) (n2 c2:Nat) (h0:dm<=1000000) (h6:n2<=1000000) (e7:Row w.heap.size w D dm 1 (pz x.drop)) (e9:Row w.heap.size w A2 n2 2 (bz x.add)) (hD:∀a,D=some a->a.block∉XY X Y) (hA:∀a,A2=some a->a.block∉XY X Y) (h7:V.M.v.files.length<=40)
  (h8:V.M.count<=1000000000) (h9:V.M.name.length<=1000) (K:Nat) (b1:Array Value) (F:Sv->Sv) (hF:∀args w,(callFunc K args).run prog w=.ok (.enter K args) w) {R:World->Dw->Sl->Sd->Gs->Bool->World->Prop} (hK:pw5 w X Y V K b1 R):
  Calls prog 112 #[Y.s,x.val D dm dd A2 n2 c2,.func (.func K) #[] b1] w (bw2 w X Y V F R (St.turn S V x F)):=by
 have H:=b_ w (.cells #[.slice D dm dd,.slice A2 n2 c2,x.log,[x.floor],[x.cert],[x.at_],[x.lease]] 135);have d3:=BoxO.new w #[.slice D dm dd,.slice A2 n2 c2,x.log,[x.floor],[x.cert],[x.at_],[x.lease]] 135;have h1:=h.below H;have b2:=(e7.below H).up H.size;have b5:=(e9.below H).up H.size;have e':∀g∈XY X Y,g < w.heap.size:=h.lt;obtain⟨ge,d4⟩:=n_ w.heap.size;rw[<-d4]at d3;generalize hW:w.alloc (.cells #[.slice D dm dd,.slice A2 n2 c2,x.log,[x.floor],[x.cert],[x.at_],[x.lease]] 135)=W at *;have h':ge∉XY X Y:=fun hm=>by have:=e' _ hm;omega
 have a4:=(Acc.start (F:=[]) h1.dm).ak;have c0:=h1.box.cell 0;simp only[Yw.cells,gE0,gE1]at c0;obtain⟨Tr,hR⟩:=n_ (St.turn S V x F);unfold St.turn at hR;rw[<-show Tr=St.turn S V x F from hR];obtain⟨a,ha⟩:=n_ S.ak;rw[<-ha]at a4 hR;obtain⟨S1,er⟩:=a;simp only at a4 hR;have HG:=H_ d4;have f0:=H_ a4;have HR:=H_ hR;have H1:=H_ h1;have HB:=H_ H;have f1:=H_ d3;have Q:=H_ (d_ b2 b5);have HK:=H_ hK;have HF:=H_ hF;have i2:=H_ (show Y.P.n=V.M.v.files.length from h.plen);clear a4 d4 h h1 e7 e9 b2 b5 H d3 e' hR ha hK hF;unfold Ed.val at *;go_enter func112,ntmps112;go_wp2_with fail;rw[<-HG.out];clear hW;refine f0.mono ?_;rintro e w1 ⟨rfl,X2,h2⟩;obtain⟨X1,e1,U,C,d5⟩:=H1.disk h2.updM;have b7:Chg X.foot W w1:=by simpa using h2.c
 have I:=(Chg.of_below HB.out (XY X Y)).trans C (fun g hg=>.inl hg);have J:∀g∈XY X1 Y,g∈XY X Y\/w.heap.size<=g:=fun g hg=>(d5 g hg).imp id (fun q=>g_ HB.size q);have i3:=H_ U;have a5:=H_ I;have d7:=H_ J;have j':∀g,g∉XY X Y->g∉X.foot:=fun g hg hm=>hg (x_ _ hm)
 by_cases he:er=0
 ·subst he
  have o:=f1.chg C h';have y0:=o.c0;have y1:=o.c1;have y2:=o.c2;have y3:=o.c3;have y4:=o.c4;have y5:=o.c5;have y6:=o.c6;have b8:=(nz C Q.1 l_ (fun j _ a ha=>hD a ha)).up C.size;have b9:=(nz C Q.2 l_ (fun j _ a ha=>hA a ha)).up C.size;have O:=jz3 U x D dm dd A2 n2 c2 h0 h6 b8 b9 h7 h8 h9;obtain⟨r,hr⟩:=n_ (St.saved S1 V x);have z:=HR.out;rw[if_neg s_]at z;rw[<-hr]at O z;have i6:∃S3 M3 b3 a0,r=(S3,{ V with M:=M3,only:=b3 },a0):=⟨_,_,_,_,hr⟩;obtain⟨S3,M3,b3,a0,rfl⟩:=i6;obtain⟨V3,d9⟩:∃V3:Sv,V3={ V with M:=M3,only:=b3 }:=⟨_,rfl⟩;simp only at O z;rw[<-d9]at O z;have a6:=H_ d9;unfold Ed.val at O;have f2:=H_ O;have a1:=H_ z;clear O hr d9 z b8 b9 o Q f1 HR f0 U C d5 I J b7 h2;go_wp2_with fail;refine f2.mono ?_;rintro e w3 ⟨rfl,X3,P3,e3,d',f5,f6,f7⟩;have a7:=a5.trans f5 d7;have a8:∀g∈XY X3 Y,g∈XY X Y\/w.heap.size<=g:=fun g hg=>by
   rcases f6 g hg with q|q
   ·exact d7.out g q
   ·exact .inr (g_ a5.size q)
  have a9:P3=Y.P\/∀a,P3.a=some a->w.heap.size<=a.block:=f7.imp id (fun q a ha=>g_ a5.size (q a ha));have E:=d';rw[a6.out]at E;have f8:=HK.out w3 X3 P3 S3 M3 b3 (e3.trans e1) a7 a8 a9 E;have f9:∀er:Nat,bw2 w X Y V F R (S3,V3,er) (.returned (.int .i64 er)) w3:=fun er=>⟨rfl,w3,X3,P3,S3,M3,b3,e3.trans e1,a7,a8,a9,E,.inl ⟨rfl,rfl,a6⟩⟩;have d0:∀(er:Nat) w5,R w3 X3 P3 S3 M3 b3 w5->bw2 w X Y V F R (S3,F V3,er) (.returned (.int .i64 er)) w5:=fun er w5 k=>⟨rfl,w3,X3,P3,S3,M3,b3,e3.trans e1,a7,a8,a9,E,.inr ⟨k,rfl,by rw[a6.out]⟩⟩;have e0:=d'.box.cell 10;simp only[Yw.cells,gE0,gE1]at e0;have g8:=H_ f8;have i8:=H_ f9;have d1:=H_ d0;clear f8 f9 d0 a7 a8 d' E a9 f7 f5 f6 f2 a5 d7 i3 y0 y1 y2 y3 y4 y5 y6
  by_cases a':a0=0
  ·subst a'
   have a2:=H_ (a1.trans (if_pos (.inl rfl)));go_wp2_with fail;rw[HF.out,Oper.upon_enter];refine g8.mono ?_;rintro e w5 ⟨rfl,h5⟩;have H5:=H_ (d1.out 0 _ h5);clear h5;go_wp2;go_ret;rw[a2.out];exact H5
  ·have k7:((a0:Int)==0)=false:=by simp;omega
   have b0:b3=V3.only:=by rw[a6.out]
   cases ho:V3.only with
   |true=>
    rw[ho]at e0;have a2:=H_ (a1.trans (if_pos (.inr (b0.trans ho))));clear ho a' b0;go_wp2_with fail;rw[HF.out,Oper.upon_enter];refine g8.mono ?_;rintro e w5 ⟨rfl,h5⟩;have H5:=H_ (d1.out a0 _ h5);clear h5;go_wp2;go_ret;rw[a2.out];exact H5
   |false=>
    rw[ho]at e0;have a2:=H_ (a1.trans (if_neg (by simp[a',b0.trans ho])));clear ho a' b0;go_wp2;go_ret;rw[a2.out];exact i8.out _
 ·have k8:((er:Int)==0)=false:=by simp;omega
  have z:=HR.out;rw[if_pos he]at z;have a1:=H_ z;clear z he;have HU:Hid (bw2 w X Y V F R (S1,V,er) (.returned (.int .i64 er)) w1):=H_ ⟨rfl,w1,X1,Y.P,S1,V.M,V.only,e1,I,J,.inl rfl,U,.inl ⟨rfl,rfl,rfl⟩⟩;clear U C d5 I J b7 h2;go_wp2;go_ret;rw[a1.out];exact HU
theorem vj4 (h:SvAt w X S Y V) (x:Ed) (D:Option Addr) (dm dd:Nat) (A2:Option Addr) (z c2:Nat) (C:dm<=1000000) (E:z<=1000000) (H:Row w.heap.size w D dm 1 (pz x.drop)) (I:Row w.heap.size w A2 z 2 (bz x.add)) (hD:∀a,D=some a->a.block∉XY X Y) (hA:∀a,A2=some a->a.block∉XY X Y) (J:V.M.v.files.length<=40)
  (O:V.M.count<=1000000000) (Q:V.M.name.length<=1000) (K:Nat) (o:Array Value) (F:Sv->Sv) (hF:∀args w,(callFunc K args).run prog w=.ok (.enter K args) w) {B:Nat} (hB:B<=w.heap.size) (hK:by6 B w X Y V K o F):
  Calls prog 112 #[Y.s,x.val D dm dd A2 z c2,.func (.func K) #[] o] w fun e w'=>e=.returned (.int .i64 ((St.turn S V x F).2.2:Int))/\vy1 B X Y w w' (St.turn S V x F).1 (St.turn S V x F).2.1:=by
 refine(ax3 h x D dm dd A2 z c2 C E H I hD hA J O Q K o F hF hK).mono ?_;rintro e w' ⟨he,w1,X1,P1,S1,M1,b,e1,c1,f1,p1,h1,⟨rfl,q1,U⟩|⟨k,q1,U⟩⟩
 ·rw[q1,U]
  exact⟨he,wy1.toB ⟨X1,{ Y with P:=P1 },e1,rfl,h1,c1,f1⟩ hB⟩
 ·rw[q1,U]
  exact⟨he,vy1.trans (Y1:={ Y with P:=P1 }) e1 rfl c1 f1 hB k⟩
theorem SvAt.wj4 (h:SvAt w X S Y V) (e:X1.d=X.d) (hd:Dm w1 X1 S1) (c:Chg X.foot w w1) (H:∀g∈X1.foot,g∈X.foot\/(w:Nat)<=g):SvAt w1 X1 S1 Y V/\Chg (XY X Y) w w1/\(∀g∈XY X1 Y,g∈XY X Y\/(w:Nat)<=g):=by
 have E:∀g∈Y.foot,g∉X.foot:=h.apart.x;have z:Chg (XY X Y) w w1:=c.mono fun g o=>.inl (x_ _ o);have C:∀g∈XY X1 Y,g∈XY X Y\/(w:Nat)<=g:=fun g o=>by
  rcases q_.1 o with h1|h1
  ·rcases H g h1 with h2|h2
   ·exact .inl (x_ _ h2)
   ·exact .inr h2
  ·exact .inl (k_ _ h1)
 refine⟨⟨hd,by rw[e];exact h.box.chg c (E _ (Yw.aj.2 (.inl rfl))),by rw[e];exact h.man.chg c (E _ (Yw.aj.2 (.inr (.inl rfl)))),h.row.step c H,h.pout,by rw[e];exact h.log.chg c (E _ (Yw.aj.2 (.inr (.inr (.inl rfl))))),h.mem.chg c (fun g o=>E g (Yw.aj.2 ?_)),h.its,h.tabs.step z C,h.st.step z C,⟨fun g o I=>?_,h.apart.s,h.apart.m,h.apart.g⟩,h.ng⟩,z,C⟩
 ·rcases h_.1 o with rfl|o
  ·exact .inr (.inr (.inr (.inl rfl)))
  ·exact .inr (.inr (.inr (.inr o)))
 ·rcases H g I with h1|h1
  ·exact E g o h1
  ·have:=h.ylt g o
   omega
theorem Way.wj4 {w0:World} {X0:Dw} (k:Way w0 X0 Y V w X S) (e:X1.d=X.d) (hd:Dm w1 X1 S1) (c:Chg X.foot w w1) (o:∀g∈X1.foot,g∈X.foot\/(w:Nat)<=g):Way w0 X0 Y V w1 X1 S1/\Chg (XY X Y) w w1/\∀g∈XY X1 Y,g∈XY X Y\/(w:Nat)<=g:=by
 obtain⟨h1,c1,f1⟩:=k.at_.wj4 e hd c o;refine⟨⟨h1,e.trans k.d,k.c.trans c1 k.f,fun g z=>?_⟩,c1,f1⟩
 rcases f1 g z with q|q
 ·exact k.f g q
 ·exact .inr (g_ k.c.size q)
def oy5 (X:Dw) (Y:Yw) (w:World) (V:Sv) (n:Int) (R:Sd×Nat) (e:Ending) (w':World):Prop:=∃(p:Option Addr) (n':Int) (X':Dw),e=.returned (.tuple #[.pointer p,n',(R.2:Int)])/\X'.d=X.d/\SvAt w' X' R.1 Y V/\Chg (XY X Y) w w'/\(∀g∈XY X' Y,g∈XY X Y\/(w:Nat)<=g)/\
 (R.2=0->∃g,p=some ⟨g,0,none⟩/\n'=n/\LgAt w' g X.d (Mn.name Mn.kLog n) 0 0/\(w:Nat)<=g/\g∉XY X' Y)
theorem kz3 {P S a oi v} (h:Hv P S a oi v:=by intro w o;(have k0:=o.cell 0;simp only[Yw.cells,gE0]at k0);go_simp;try (with_reducible rfl)):Hv P S a oi v:=h
theorem lx4 (h:SvAt w X S Y V) (i6:S.load<=1000000000000):
  Calls prog 111 #[Y.s,.slice none 0 0] w (oy5 X Y w V (St.number S) (St.fresh S)):=by
 have a2:=h.ylt;obtain⟨n,hn⟩:=n_ (St.number S);have b9:=tk1 S;have b':(Mn.name Mn.kLog n).length<=1000:=wk1 _ _;obtain⟨R,I⟩:=n_ (St.fresh S);have d3:St.fresh S=R:=I.symm;rw[d3];unfold St.fresh at I;rw[<-hn]at I b9 ⊢;have U:=gj2 h;rw[<-hn]at U;have k1:Way w X Y V w X S:=Way.start h;clear d3 hn
 by_cases a4:1073741824 < n
 ·rw[if_pos a4]at I U
  have a1:=H_ U;have HR:=H_ I;clear U I h;go_enter func111,ntmps111;go_wp2_with fail
  refine m_ a1 ?_
  rintro e w3 ⟨rfl,J⟩;have k3:=k1.below J;have HK:=H_ k3;clear k1 k3 J;go_wp2;refine bodyPost_ret (v:=.tuple #[.pointer none,.int .i64 0,.int .i64 65]) (by simp[results,go_sem]) rfl ?_;rw[HR.out];exact⟨_,_,_,rfl,HK.d,HK.at_,HK.c,HK.f,fun h0=>by cases h0⟩
 rw[if_neg a4]at I U;obtain⟨nm,b1⟩:=n_ (Mn.name Mn.kLog n);rw[<-b1]at I b';replace I:R=if (S.create nm).2≠0 then S.create nm else (S.create nm).1.sync nm:=I
 have a5:∀W,Below w w W->Calls prog 40 #[.string { data:=#[108,111,103] },n] W fun e w'=>e=.returned (.string (str nm))/\Below W.heap.size W w':=fun W hb=>by
  have:=name_any (str Mn.kLog) (by rw[jy];decide) n o_ W (k1.below hb).at_.dm.env;rw[kz,<-b1]at this;exact this
 have O:∀W,Below w w W->Calls prog 82 #[X.d,.string (str nm)] W (tq4 X W nm (S.create nm)):=fun W hb=>xy3 X S nm W b' o_ (h.dm.below hb);obtain⟨a,ha⟩:=n_ (S.create nm);rw[<-ha]at I O;obtain⟨S5,b2⟩:=a;simp only at I;have a1:=H_ U;have b3:=H_ a5;have HX:=H_ h.box;have i7:=H_ b9;have HH:=H_ h;have d4:=H_ b1;clear U ha a5 a4 b9 b1
 by_cases a7:b2=0
 ·subst a7
  rw[if_neg s_]at I;have z:∀W,Below w w W->Calls prog 82 #[X.d,.string (str nm)] W fun e w'=>∃g X',e=.returned (.tuple #[.pointer (some ⟨g,0,none⟩),.int .i64 0])/\X'.d=X.d/\Dm w' X' S5/\Chg X.foot W w'/\(∀g∈X'.foot,g∈X.foot\/W.heap.size<=g)/\LgAt w' g X.d nm 0 0/\W.heap.size<=g/\g∉X'.foot:=fun W hb=>(O W hb).mono fun e w' ⟨X',q1,q2,q3,q4,q5⟩=>by
   rcases q5 with ⟨q,_⟩|⟨_,g,q6,q7,q8,q9⟩
   ·exact absurd rfl q
   ·exact⟨g,X',q6,q1,q2,q3,q4,q7,q8,q9⟩
  have Q:=H_ z;have HR:=H_ I;clear O z I h;go_enter func111,ntmps111;go_wp2_with fail
  refine m_ a1 ?_
  rintro e w3 ⟨rfl,J⟩;have C:=ax J;go_wp2_with fail;refine wp_region_held_drew (S:=fun w'=>BoxO w' 103 Y.s (Y.cells X.d V)) rfl (HX.below C) (fun o=>?_);refine w_v 0 o ?_ (k:=kz3);go_simp;refine w_v 1 o ?_ (k:=kz3);go_simp;refine w_v 2 o ?_ (k:=kz3);go_simp;refine w_v 3 o ?_ (k:=kz3);go_simp;refine w_v 4 o ?_ (k:=kz3);go_simp;refine w_r 5 fun K hK=>?_;go_simp
  with_reducible refine(b3.out _ C).mono ?_
  rintro e w4 ⟨rfl,H⟩;go_simp;refine hK.out _ _ (o.below H) ?_;clear o hK K;intro o;go_simp;refine w_r 6 fun K hK=>?_;go_simp
  with_reducible refine(Q.out _ (az C H)).mono ?_
  rintro e w5 ⟨g,X5,rfl,e5,E,a0,a9,b5,g8,b6⟩;go_simp;refine hK.out _ _ (o.chg a0 (HH.apart.x _ (Yw.aj.2 (.inl rfl)))) ?_;clear o hK K;intro o;go_simp;refine w_v 7 o ?_ (k:=kz3);go_simp;refine w_v 8 o ?_ (k:=kz3);go_simp;refine w_v 9 o ?_ (k:=kz3);go_simp;refine w_v 10 o ?_ (k:=kz3);go_simp;refine w_v 11 o ?_ (k:=kz3);go_simp;refine w_d ?_;have a':=az C H;obtain⟨k5,d6,d7⟩:=(k1.below a').wj4 e5 E a0 a9;have d8:(w:Nat)<=g:=g_ a'.size g8;have d9:g∉XY X5 Y:=fun hm=>by
   rcases q_.1 hm with q|q
   ·exact b6 q
   ·have:=a2 g q
    omega
  have d':=b5.lt;have b7:=kv2 X5 S5 g nm 0 0 w5 b' E (by rw[e5];exact b5) b6;obtain⟨b,hb⟩:=n_ (S5.sync nm);rw[<-hb]at b7;have h6:Hid (R=b):=H_ (HR.trans hb.symm);obtain⟨S6,h7⟩:=b;simp only at b7;have e0:=H_ b7;have HL:=H_ b5;have h8:=H_ k5;have HG:=H_ (d_ d8 (d_ d9 (d_ d' b6)));have HY:=H_ a2;clear b7 b5 k5 d8 d9 d' b6 hb d6 d7 a0 a9 E e5 a' H C J o Q b3 HX HR a1 k1 a2 HH;go_wp2
  go_loopw [36] (fun i wr=>i=.int .i64 0/\wr=w5) (fun i _=>0)
  case atStart=>exact⟨rfl,rfl⟩
  case round=>
   obtain⟨rfl,rfl⟩:=hrel;go_wp2_with fail
   refine m_ e0 ?_
   rintro e w6 ⟨rfl,X6,e6,e1,d0,e2⟩;obtain⟨k6,e3,b8⟩:=h8.wj4 e6 e1 d0 e2;have e4:=HL.chg d0 HG.2.2.2;have e7:g∉XY X6 Y:=fun hm=>by
    rcases b8 g hm with q|q
    ·exact HG.2.1 q
    ·have:=HG.2.2.1
     omega
   have HZ:=H_ (d_ k6 (d_ e4 e7));clear k6 e4 e7 d0 e2 e1 e6 e3 b8 e0;go_wp2;refine bodyPost_ret (v:=.tuple #[.pointer (some ⟨g,0,none⟩),n,(h7:Int)]) (by simp[results,go_sem]) rfl ?_;rw[h6.out];exact⟨_,_,X6,rfl,HZ.1.d,HZ.1.at_,HZ.1.c,HZ.1.f,fun _=>⟨g,rfl,rfl,by rw[<-d4.out];exact HZ.2.1,HG.1,HZ.2.2⟩⟩
 ·rw[if_pos a7]at I
  have z:∀W,Below w w W->Calls prog 82 #[X.d,.string (str nm)] W fun e w'=>∃X',e=.returned (.tuple #[.pointer none,(b2:Int)])/\X'.d=X.d/\Dm w' X' S5/\Chg X.foot W w'/\(∀g∈X'.foot,g∈X.foot\/W.heap.size<=g):=fun W hb=>(O W hb).mono fun e w' ⟨X',q1,q2,q3,q4,q5⟩=>by
   rcases q5 with ⟨_,q⟩|⟨q,_⟩
   ·exact⟨X',q,q1,q2,q3,q4⟩
   ·exact absurd q a7
  have Q:=H_ z;have HR:=H_ I;clear O z I h;go_enter func111,ntmps111;go_wp2_with fail
  refine m_ a1 ?_
  rintro e w3 ⟨rfl,J⟩;have C:=ax J;go_wp2_with fail;refine wp_region_held_drew (S:=fun w'=>BoxO w' 103 Y.s (Y.cells X.d V)) rfl (HX.below C) (fun o=>?_);refine w_v 0 o ?_ (k:=kz3);go_simp;refine w_v 1 o ?_ (k:=kz3);go_simp;refine w_v 2 o ?_ (k:=kz3);go_simp;refine w_v 3 o ?_ (k:=kz3);go_simp;refine w_v 4 o ?_ (k:=kz3);go_simp;refine w_r 5 fun K hK=>?_;go_simp
  with_reducible refine(b3.out _ C).mono ?_
  rintro e w4 ⟨rfl,H⟩;go_simp;refine hK.out _ _ (o.below H) ?_;clear o hK K;intro o;go_simp;refine w_r 6 fun K hK=>?_;go_simp
  with_reducible refine(Q.out _ (az C H)).mono ?_
  rintro e w5 ⟨X5,rfl,e5,E,a0,a9⟩;go_simp;refine hK.out _ _ (o.chg a0 (HH.apart.x _ (Yw.aj.2 (.inl rfl)))) ?_;clear o hK K;intro o;go_simp;refine w_v 7 o ?_ (k:=kz3);go_simp;refine w_v 8 o ?_ (k:=kz3);go_simp;refine w_v 9 o ?_ (k:=kz3);go_simp;refine w_v 10 o ?_ (k:=kz3);go_simp;refine w_v 11 o ?_ (k:=kz3);go_simp;refine w_d ?_;obtain⟨k5,_,_⟩:=(k1.below (az C H)).wj4 e5 E a0 a9;have j3:((b2:Int)==0)=false:=by simp;omega
  have HZ:=H_ k5;have HE:=H_ a7;clear k5 a0 a9 E e5 H C J o Q b3 HX a1 k1 HH a7;go_wp2;refine bodyPost_ret (v:=.tuple #[.pointer none,.int .i64 0,(b2:Int)]) (by simp[results,go_sem]) rfl ?_;rw[HR.out];exact⟨_,_,_,rfl,HZ.d,HZ.at_,HZ.c,HZ.f,fun h0=>absurd h0 HE⟩
theorem ij2:(prog.info? 178).map (fun i=>(i.zero,i.size,i.bytes))=some (some (.agg #[.int .i64 0,.int .i64 0,.pointer none]),3,24):=by kernel_rfl
theorem yq1 (q:List Tq):∀u∈hcells q,u.oneCell'=true:=by
 intro u o;simp only[hcells,W_,h_,ar_,or_false]at o;obtain⟨a,_,rfl|rfl|rfl⟩:=o<;>rfl
theorem qj2 (A:Option Addr) (n c:Nat) (q:List Tq) (w:World) (hn:n<=1000000) (h0:A=none->n=0/\c=0) (I:Row w w A n 3 (hcells q)):
  Calls prog 116 #[.slice A n c] w fun e w'=>∃A' c',e=.returned (.slice A' n c')/\w'.ownsRow w 178 3 (.slice A' n c') n (hcells q)/\Below w w w':=by
 obtain⟨i0,J,O,Q,U⟩:=info_parts ij2;have HR:=H_ I;have o:=I.len;clear I
 cases A with
 |none=>
  obtain⟨rfl,rfl⟩:=h0 rfl;rw[xq]at o;have hq:q=[]:=ae_.1 o_;subst hq;clear HR o;have C:∀W,(binOp .eql 91 (.slice none 0 0) (.slice none 0 0)).run prog W=.ok (.bool true) W:=fun W=>by kernel_rfl
  go_enter func116,ntmps116;go_wp2;go_ret;exact⟨none,0,rfl,G_ _ _ _ _,Below.refl _ _⟩
 |some p=>
  clear o h0;go_enter func116,ntmps116;have E:(w.alloc (.cells #[] 178)).ownsRow w 178 3 (.slice (some (w:Nat)) 0 0) 0 []:=⟨rfl,.inr ⟨(w:Nat),0,#[],rfl,B_ _,heap_alloc_new w _,B_ _,by decide,rfl,rfl⟩⟩;have z:=b_ w (.cells #[] 178);have HO:=H_ E;have HB:=H_ z;have H:=H_ (HR.below z);clear E z;have C:∀W,(binOp .eql 91 (.slice (some p) n c) (.slice none 0 0)).run prog W=.ok (.bool false) W:=fun W=>Lib.run_eql_slice_some_nil (e:=178) W _ _ _ (by kernel_rfl);go_wp2_with (at_builtin;refine iq ?_);refine gz (iy rfl (.tmp 5) (.tmp 6) _ rfl (w:Nat) 178 i0 _ 3 24 underlying91 J O Q U rfl o_ w HB.out HB.size _ 0 [] rfl HO.out w _ n c (hcells q) rfl H.out (yq1 q) n _ (am_ n) (D_ _) (by unfold maxLen;omega) o_ ?_);intro A3 c3 w3 z1 z2 z3 z4 z5;have HF:=H_ z1;clear z1 z3 HO HB H;go_wp2;go_ret;exact⟨A3,c3,rfl,HF,z2⟩
theorem kz2 {P S a oi v} (h:Hv P S a oi v:=by intro w o;(have k0:=o.1.c0;have k1:=o.2.1.c0;have k2:=o.2.2.c0);go_simp;try (with_reducible rfl)):Hv P S a oi v:=h
theorem oy3 {w0:World} {X0:Dw} {S0:Sd} {P1:Sl} {M1:Gs} {b1:Bool} (h0:SvAt w0 X0 S0 Y V) (hc:Chg (XY X0 Y) w0 w1) (hf:∀g∈XY X1 Y,g∈XY X0 Y\/(w0:Nat)<=g) (h:SvAt w1 X1 S1 { Y with P:=P1 } { V with M:=M1,only:=b1 })
  (gt gg gs E:Nat) (T:Sl) (q:List Tq) (n:Int) (ts:List ((Int×Int)×List (List It))) (bt:BoxO w1 91 gt [.slice T.a T.n T.c]) (bg:BoxO w1 90 gg [E]) (bs:BoxO w1 55 gs [Y.s])
  (b':gt≠Y.s) (c9:gg≠Y.s) (d0:gs≠Y.s) (hl:LgAt w1 E X1.d (Mn.name Mn.kLog n) 0 0) (d1:(w0:Nat)<=E) (Q:E∉XY X1 Y) (hP:P1=Y.P\/∀a,P1.a=some a->E < a.block) (ht:uw (E::XY X1 Y) w1 fun w=>iv1 w T q ts):
  Calls prog 121 #[gt,gg,gs] w1 fun e w'=>e=.returned (.tuple #[])/\vy1 w0 X1 { Y with P:=P1 } w1 w' S1 (St.turned n ts { V with M:=M1,only:=b1 }):=by
 have a5:=h.lt;have a0:∀g∈Y.foot,g∉X1.foot:=h.apart.x;have b6:Y.s∉Y.m::Y.g::Y.mm::skF Y.L Y.ns:=h.apart.s;have e3:Y.m∉Y.g::Y.mm::skF Y.L Y.ns:=h.apart.m;have J:Y.s∈Y.foot:=Yw.aj.2 (.inl rfl);have a6:Y.m∈Y.foot:=Yw.aj.2 (.inr (.inl rfl));have e4:=hl.lt;have b3:∀(mm L:Nat) (ns:List Nd) (w':World),Chg [Y.s] w1 w'->BoxO w' 103 Y.s ({ Y with P:=P1,g:=E,mm:=mm,L:=L,ns:=ns,T:=T,q:=q }.cells X1.d { V with M:=M1,only:=b1 })->MmAt w' mm L ns->its ns=[]->(∀g∈mm::skF L ns,(w1:Nat)<=g)->vy1 w0 X1 { Y with P:=P1 } w1 w' S1 (St.turned n ts { V with M:=M1,only:=b1 }):=by
  intro mm L ns w' c e5 a7 O C;have c2:Chg (XY X1 Y) w1 w':=c.mono fun g H=>.inl (by rw[c_.1 H];exact k_ _ J);have a1:∀g∈XY X1 { Y with P:=P1,g:=E,mm:=mm,L:=L,ns:=ns,T:=T,q:=q },g=E\/g∈XY X1 Y\/(w1:Nat)<=g:=fun g H=>by
   rcases q_.1 H with q|q
   ·exact .inr (.inl (x_ _ q))
   ·rcases Yw.aj.1 q with q|q|q|q|q
    ·exact .inr (.inl (k_ _ (Yw.aj.2 (.inl q))))
    ·exact .inr (.inl (k_ _ (Yw.aj.2 (.inr (.inl q)))))
    ·exact .inl q
    ·exact .inr (.inr (C g (by rw[show g=mm from q];exact p_)))
    ·exact .inr (.inr (C g (f_ _ q)))
  have f9:Y.s < (w1:Nat):=a5 _ (k_ _ J);have g4:Y.m < (w1:Nat):=a5 _ (k_ _ a6);have e6:E∉mm::skF L ns:=fun I=>by have:=C E I;omega
  refine⟨X1,{ Y with P:=P1,g:=E,mm:=mm,L:=L,ns:=ns,T:=T,q:=q },rfl,rfl,⟨h.dm.chg c (fun g H=>by rw[c_.1 H];exact⟨a0 _ J,h.ng _ J⟩),e5,h.man.chg c (fun I=>b6 (by rw[<-c_.1 I];exact p_)),?_,?_,hl.chg c (fun I=>Q (by rw[c_.1 I];exact k_ _ J)),a7,O,ht.step (c.mono fun g H=>.inl (by rw[c_.1 H];exact f_ _ (k_ _ J))) (fun g H=>?_),h0.st.step (hc.trans c2 hf) (fun g H=>?_),⟨?_,?_,?_,e6⟩,?_⟩,c2,fun g H=>?_⟩
  ·exact⟨(nz c h.row.row l_ (fun j hj a ha I=>h.pout j hj a ha (by rw[c_.1 I];exact J))).up c.size,h.row.nc,h.row.cm,h.row.nb,h.row.away⟩
  ·intro j hj a ha I
   have hp:=h.pout j hj a ha;obtain⟨a',e,q1,_⟩:=h.row.row.cell j hj;rw[ha]at e;injection e with e;subst e
   rcases Yw.aj.1 I with q|q|q|q|q
   ·exact hp (Yw.aj.2 (.inl q))
   ·exact hp (Yw.aj.2 (.inr (.inl q)))
   ·have q2:a.block=E:=q
    rcases hP with rfl|hP
    ·obtain⟨a',e,q3,_⟩:=h0.row.row.cell j (by
      have l1:=h.row.row.len;have l2:=h0.row.row.len;rw[l2,<-l1];exact hj)
     rw[ha]at e;injection e with e;subst e;omega
    ·have:=hP a ha
     omega
   ·have:=C _ (show a.block∈mm::skF L ns by rw[show a.block=mm from q];exact p_)
    omega
   ·have:=C _ (f_ mm q)
    omega
  ·rcases a1 g H with q|q|q
   ·exact .inl (by rw[q];exact p_)
   ·exact .inl (f_ _ q)
   ·exact .inr q
  ·rcases a1 g H with q|q|q
   ·exact .inr (by rw[q];exact d1)
   ·exact hf g q
   ·exact .inr (g_ hc.size q)
  ·intro g H I
   have h8:=a5 g (x_ _ I)
   rcases a1 g (k_ _ H) with q|q|q
   ·exact Q (x_ _ (by rw[<-q];exact I))
   ·rcases q_.1 q with q2|q2
    ·rcases Yw.aj.1 H with q|q|q|q|q
     ·exact a0 _ J (by rw[<-show g=Y.s from q];exact I)
     ·exact a0 _ a6 (by rw[<-show g=Y.m from q];exact I)
     ·exact Q (x_ _ (by rw[<-show g=E from q];exact I))
     ·have:=C g (by rw[show g=mm from q];exact p_)
      omega
     ·have:=C g (f_ _ q)
      omega
    ·exact a0 g q2 I
   ·omega
  ·intro I
   rcases h_.1 I with q|q
   ·exact b6 (by rw[show Y.s=Y.m from q];exact p_)
   ·rcases h_.1 q with q|q
    ·exact Q (by rw[<-show Y.s=E from q];exact k_ _ J)
    ·have:=C Y.s q
     omega
  ·intro I
   rcases h_.1 I with q|q
   ·exact Q (by rw[<-show Y.m=E from q];exact k_ _ a6)
   ·have:=C Y.m q
    omega
  ·intro g H
   have hb:=h.dm.env.base;have h9:=h0.dm.env.base
   rcases a1 g (k_ _ H) with q|q|q
   ·omega
   ·rcases q_.1 q with q2|q2
    ·exact h.dm.base g q2
    ·exact h.ng g q2
   ·omega
  ·rcases a1 g H with q|q|q
   ·exact .inr o_
   ·exact .inl q
   ·exact .inr (g_ hc.size q)
 have d2:=lv2 w1.drew;have HF:=H_ b3;have d3:=H_ d2;have HB:=H_ h.box;have HN:=H_ (d_ b' (d_ c9 d0));have d4:Hid (BoxO w1.drew 91 gt [.slice T.a T.n T.c]/\BoxO w1.drew 90 gg [E]/\BoxO w1.drew 55 gs [Y.s]):=H_ ⟨bt,bg,bs⟩;clear b3 d2 h bt bg bs b' c9 d0 h0 hc hf a5 a0 b6 e3 J a6 e4 hl d1 Q hP ht;have d5:∀(W:World) (j:Nat) (u:Value),(BoxO W 91 gt [.slice T.a T.n T.c]/\BoxO W 90 gg [E]/\BoxO W 55 gs [Y.s])->(BoxO (W.setCell (Y.s,j) u) 91 gt [.slice T.a T.n T.c]/\BoxO (W.setCell (Y.s,j) u) 90 gg [E]/\BoxO (W.setCell (Y.s,j) u) 55 gs [Y.s]):=fun W j u ⟨a,b,c⟩=>by
  have k:Chg [Y.s] W (W.setCell (Y.s,j) u):=(Chg.refl _ _).setCell _ (.inl s_);exact⟨a.chg k (by simpa using HN.out.1),b.chg k (by simpa using HN.out.2.1),c.chg k (by simpa using HN.out.2.2)⟩
 have a8:=H_ d5;clear d5;go_enter func121,ntmps121;go_wp2_with fail;refine wp_region_held_drew (S:=fun w'=>BoxO w' 91 gt [.slice T.a T.n T.c]/\BoxO w' 90 gg [E]/\BoxO w' 55 gs [Y.s]) rfl d4.out (fun o=>?_);refine w_v 0 o ?_ (k:=kz2);go_simp;refine w_v 1 o ?_ (k:=kz2);go_simp;refine w_v 2 o ?_ (k:=kz2);go_simp;refine w_v 3 o ?_ (k:=kz2);go_simp;refine w_v 4 o ?_ (k:=kz2);go_simp;refine w_r 5 fun K hK=>?_;go_simp
 refine m_ d3 ?_
 rintro e w3 ⟨mm,L,ns,rfl,a7,O,U,C⟩;go_simp;refine hK.out _ _ ⟨o.1.below U,o.2.1.below U,o.2.2.below U⟩ ?_;clear o hK K;intro o;go_simp;refine w_v 6 o ?_ (k:=kz2);go_simp;refine w_v 7 o ?_ (k:=kz2);go_simp;refine w_r 8 fun K hK=>?_
 (have hB:=BoxO.below (show BoxO w1.drew _ _ _ from HB) U;have qq:=hB.cell 4;have z:=hB.free 4;simp only[Yw.cells,gE0,gE1]at qq)
 go_simp;refine hK.out _ _ (a8.out _ _ _ o) ?_;clear o hK K;intro o;go_simp;refine w_v 9 o ?_ (k:=kz2);go_simp;refine w_v 10 o ?_ (k:=kz2);go_simp;refine w_r 11 fun K hK=>?_
 (have a9:=hB.store 4 (.slice T.a T.n T.c);have q2:=a9.cell 2;have z2:=a9.free 2;simp only[Yw.cells,List.set,gE0,gE1]at q2)
 go_simp;refine hK.out _ _ (a8.out _ _ _ o) ?_;clear o hK K;intro o;go_simp;refine w_v 12 o ?_ (k:=kz2);go_simp;refine w_v 13 o ?_ (k:=kz2);go_simp;refine w_r 14 fun K hK=>?_
 (have b0:=a9.store 2 (.pointer (some E));have q3:=b0.cell 3;have z3:=b0.free 3;simp only[Yw.cells,List.set,gE0,gE1]at q3)
 go_simp;refine hK.out _ _ (a8.out _ _ _ o) ?_;clear o hK K;intro o;go_simp;refine w_d ?_;have d6:=b0.store 3 (.pointer (some mm));have b7:Chg [Y.s] w3 (((w3.setCell (Y.s,4) (.slice T.a T.n T.c)).setCell (Y.s,2) E).setCell (Y.s,3) mm):=(((Chg.refl [Y.s] w3).setCell _ (.inl s_)).setCell _ (.inl s_)).setCell _ (.inl s_);have e':Y.s < (w1:Nat):=BoxO.lt HB;have hz:=HF.out mm L ns _ ((Chg.of_below (ax b0_|>.trans U) [Y.s]).trans b7 (fun g H=>.inl H)) d6 (a7.chg b7 (fun g H I=>by
  have q1:=C g H;have q2:=c_.1 I;have q3:w1.drew.heap.size=(w1:Nat):=rfl;omega)) O C
 have HZ:=H_ hz;clear hz hB a9 b0 d6 qq q2 q3 z z2 z3 b7 a7 O C o HF d3 a8 d4 U e';go_wp2;exact bodyPost_end (v:=.tuple #[]) (by simp[results,go_sem]) rfl ⟨rfl,HZ⟩
theorem cq1 (S:Sd) (l:List It):(St.write S l).1.load<=S.load+3:=by
 unfold St.write;split
 ·simp
 ·have h1:=Sd.iz1 S (Mn.name Mn.kTab (St.number S))
  simp only;split
  ·omega
  ·split
   ·rw[Sd.bj1]
    omega
   ·rw[Sd.cw1,Sd.bj1]
    omega
theorem sy2 (S:Sd):(St.fresh S).1.load<=S.load+3:=by
 unfold St.fresh;split
 ·simp
 ·have h1:=Sd.iz1 S (Mn.name Mn.kLog (St.number S))
  simp only;split
  ·omega
  ·rw[Sd.cw1]
   omega
theorem lv4 (d:Sd) (M:Gs) (e:Ed):(Gw.save d M e).1.load=d.load:=by
 unfold Gw.save
 repeat' split
 all_goals (try rfl)
 unfold Gw.put
 repeat' split
 all_goals simp[Sd.cw1,Sd.bj1]
theorem ix3 (S:Sd) (V:Sv) (x:Ed) (F:Sv->Sv):(St.turn S V x F).1.load<=S.load:=by
 have h1:=Sd.cz1 S;unfold St.turn St.saved;simp only
 repeat' split
 all_goals (try simp only[lv4])
 all_goals omega
theorem ov1 {w:World} {base n c size:Nat} {e:TypeId} {A:Option Addr} {xs:List Value} (h:w.ownsRow base e size (.slice A n c) n xs):A=none->n=0/\c=0:=by
 intro o;subst o
 rcases h.2 with ⟨h1,h2⟩|⟨g,cap,cur,h1,_⟩
 ·injection h1 with _ q1 z
  exact⟨q1,z⟩
 ·injection h1 with q _ _
  cases q
theorem Way.tabs {w0:World} {X0:Dw} {o:Sd} (h:SvAt w0 X0 o Y V) (k:Way w0 X0 Y V w X S) {G:List Nat} (z:∀g∈G,g∈XY X Y\/(w0:Nat)<=g):uw G w fun W=>iv1 W Y.T Y.q V.tabs:=
 h.tabs.step k.c (fun g C=>by
  rcases z g C with q|q
  ·exact k.f g q
  ·exact .inr q)
theorem wj3 {w:World} {e:TypeId} {g:Nat} {xs:List Value} (h:BoxO w e g xs) (z:xs.length=3):Row w w (some ⟨g,0,none⟩) 1 3 xs:=⟨o_,fun j hj=>⟨_,rfl,h.lt,by
 have h1:=h.cell j;have o:(⟨g,0,none⟩:Addr).add j=⟨g,j,none⟩:=by
  simp[Addr.add];omega
 rw[o,h1];exact j_ hj⟩⟩
theorem zx3 {w:World} {e:TypeId} {g:Nat} {xs:List Value} (h:BoxO w e g xs) (z:xs.length=2):Row w w (some ⟨g,0,none⟩) 1 2 xs:=⟨o_,fun j hj=>⟨_,rfl,h.lt,by
 have h1:=h.cell j;have o:(⟨g,0,none⟩:Addr).add j=⟨g,j,none⟩:=by
  simp[Addr.add];omega
 rw[o,h1];exact j_ hj⟩⟩
def FlB (gt gs s:Nat) (AF:Option Addr) (nf:Nat) (add:List (Int×Int)) (T:Sl) (q:List Tq) (ts:List ((Int×Int)×List (List It))) (W:World):Prop:=
 BoxO W 91 gt [.slice T.a T.n T.c]/\BoxO W 55 gs [s]/\Row W W AF nf 2 (bz add)/\iv1 W T q ts
structure FlM (w:World) (X:Dw) (Y:Yw) (V:Sv) (gx gt:Nat) (R:Sd×Sv×Nat) (l0:Nat) (wx:World) (S2:Sd) (X2:Dw) (AF:Option Addr) (nf cf:Nat) (add:List (Int×Int)) (T:Sl) (q:List Tq) (ts:List ((Int×Int)×List (List It))):Prop where
 way:Way w X Y V wx X2 S2
 box:BoxO wx 135 gx [.slice none 0 0,.slice AF nf cf,.int .i64 0,.int .u64 0,.int .u64 0,.int .u64 0,.int .u64 0]
 nf1:nf<=1
 fix:uw (gx::XY X2 Y) wx (FlB gt w Y.s AF nf add T q ts)
 res:R=St.lx3 S2 V add ts
 load:S2.load<=l0+3
 out:∀a,AF=some a->a.block∉XY X2 Y/\a.block≠gx/\a.block < (wx:Nat)
 gxo:gx∉XY X2 Y
 gtx:gt≠gx/\(w:Nat)<=gt/\gt < (wx:Nat)/\gt∉XY X2 Y
theorem kz33 {P S a oi v} (h:Hv P S a oi v:=by intro w E;(obtain⟨q0,q3,q5⟩:=x3.out _ E);go_simp;try (with_reducible rfl)):Hv P S a oi v:=h
theorem bk4 (h:SvAt w X S Y V) (x4:Tb.good (St.live V)=true) (x5:∀x∈V.mem,x.fit) (L8:V.mem.length<=400000) (L9:V.st.length<=2000) (F0:V.M.v.files.length<=40) (J4:1<=V.M.v.log/\V.M.v.log<=1073741824) (F1:V.M.count<=1000000000) (F2:V.M.name.length<=1000) (L':S.load<=100000000000):
  Calls prog 55 #[Y.s] w (gz1 X Y w (St.flush S V)):=by
 obtain⟨R,o⟩:=n_ (St.flush S V);rw[<-o];unfold St.flush at o;have k0:=b_ w (.cells #[Y.s] 55);have a9:=BoxO.new w #[Y.s] 55;have a':=h.lt;generalize hW:w.alloc (.cells #[Y.s] 55)=W at *;have k1:Way w X Y V W X S:=(Way.start h).below k0;have s0:=a9.cell 0;have k3:=k1.at_.box.cell 10;have c2:=k1.at_.box.cell 2;have c4:=k1.at_.box.cell 4;simp only[Yw.cells,gE0,gE1]at k3 c2 c4 s0;have HX:=H_ a';have HB:=H_ a9
 cases ho:V.only with
 |true=>
  rw[if_pos ho]at o;rw[ho]at k3;have HZ:Hid (gz1 X Y w R (.returned (.int .i64 14)) W):=H_ (by rw[o];exact⟨rfl,k1.upd⟩);clear o ho h a' a9 k1;go_enter func55,ntmps55;go_wp2;go_ret;exact HZ
 |false=>
 rw[if_neg (by simp[ho])]at o;rw[ho]at k3;have x7:=fk4 Y.g X.d V.nm V.sz V.ct W k1.at_.log;have k6:=H_ x7;clear x7
 by_cases e':V.ct=0
 ·rw[if_pos e']at o
  have e0:((V.ct:Int)==0)=true:=by simp[e']
  have HZ:Hid (gz1 X Y w R (.returned (.int .i64 0)) W):=H_ (by rw[o];exact⟨rfl,k1.upd⟩);clear o ho h a' a9 k1 e';go_enter func55,ntmps55;go_wp2_with fail
  refine m_ k6 ?_
  rintro e w2 ⟨rfl,rfl⟩;go_wp2;go_ret;exact HZ
 rw[if_neg e']at o;have e0:((V.ct:Int)==0)=false:=by simp;omega
 have x8:=h.tlen
 by_cases q8:30<=Y.T.n
 ·rw[if_pos o_]at o
  have e1:((30:Int)<=(Y.T.n:Int))=True:=eq_true o_;have HZ:Hid (gz1 X Y w R (.returned (.int .i64 65)) W):=H_ (by rw[o];exact⟨rfl,k1.upd⟩);clear o ho h a' a9 k1 e' x8 q8;go_enter func55,ntmps55;go_wp2_with fail
  refine m_ k6 ?_
  rintro e w2 ⟨rfl,rfl⟩;go_wp2;go_ret;exact HZ
 rw[if_neg o_]at o;have e1:((30:Int)<=(Y.T.n:Int))=False:=eq_false o_;obtain⟨hq,m',F4,F5,x9,F6⟩:=h.tabs.now;have n0:Y.s < (w:Nat):=h.box.lt;have n3:(w:Nat) < (W:Nat):=a9.lt;have k':=b_ W (.cells #[.slice none 0 0,.slice none 0 0,.int .i64 0,.int .u64 0,.int .u64 0,.int .u64 0,.int .u64 0] 135);have q':=BoxO.new W #[.slice none 0 0,.slice none 0 0,.int .i64 0,.int .u64 0,.int .u64 0,.int .u64 0,.int .u64 0] 135;have g8:=a9.below k';have k2:=k1.below k';have x':(W:Nat) < (W.alloc (.cells #[.slice none 0 0,.slice none 0 0,.int .i64 0,.int .u64 0,.int .u64 0,.int .u64 0,.int .u64 0] 135)).heap.size:=q'.lt;have t0:=g8.cell 0;have t4:=k2.at_.box.cell 4;simp only[Yw.cells,gE0,gE1]at t0 t4;have d5:Below w w (W.alloc (.cells #[.slice none 0 0,.slice none 0 0,.int .i64 0,.int .u64 0,.int .u64 0,.int .u64 0,.int .u64 0] 135)):=k0.trans (k'.mono k0.size);have y0:=qj2 Y.T.a Y.T.n Y.T.c Y.q (W.alloc (.cells #[.slice none 0 0,.slice none 0 0,.int .i64 0,.int .u64 0,.int .u64 0,.int .u64 0,.int .u64 0] 135)) o_ x9 ((m'.below d5).up d5.size);have y3:=H_ y0;have HR:=H_ o;have HH:=H_ h;have F9:=H_ k2;have HQ:=H_ hq;have l1:=H_ q';have F':=H_ g8;have G0:=H_ (d_ d5 (d_ n0 (d_ n3 x')));have y5:=H_ q8;clear o h ho e' x8 a' a9 y0 m' F4 F5 F6 x9 k1 k2 hq q' g8 d5 n0 n3 x' k' q8 HB;go_enter func55,ntmps55;go_wp2_with fail
 refine m_ k6 ?_
 rintro e w2 ⟨rfl,G1⟩;obtain rfl:=G1.symm;go_wp2_with fail;clear t0 t4;generalize G2:W.alloc (.cells #[.slice none 0 0,.slice none 0 0,.int .i64 0,.int .u64 0,.int .u64 0,.int .u64 0,.int .u64 0] 135)=W2 at *
 refine m_ y3 ?_
 rintro e Q ⟨A3,c3,rfl,r0,r1⟩;clear hW G2 s0 k3 c2 c4 y3 k6;have h0:=b_ Q (.cells #[.slice A3 Y.T.n c3] 91);have r2:=BoxO.new Q #[.slice A3 Y.T.n c3] 91;have d6:Below W2 W2 (Q.alloc (.cells #[.slice A3 Y.T.n c3] 91)):=az r1 h0;have y6:=own_below r0 h0;have G3:Hid (∀g,(Value.slice A3 Y.T.n c3).ownBlock=some g->(W2:Nat)<=g/\g < (Q:Nat)):=H_ (fun g e=>r0.lt g e);have y7:(Q:Nat) < (Q.alloc (.cells #[.slice A3 Y.T.n c3] 91)).heap.size:=r2.lt;have n4:=r1.size;generalize G4:Q.alloc (.cells #[.slice A3 Y.T.n c3] 91)=W4 at *;have k4:=F9.below d6;have d7:=F'.below d6;have n6:=l1.below d6;have t0:=d7.c0;have y9:∀J,Below W4 W4 J->Calls prog 118 #[Y.mm] J (sq1 J V.mem):=fun J hb=>by
  have h5:=(k4.below hb).at_;have:=oq3 h5.mem (by have q1:=zy2 h5.mem.sk;rw[h5.its]at q1;omega);rw[h5.its]at this;exact this
 have y':∀J,Below W4 W4 J->Calls prog 119 #[.slice Y.A.a Y.A.n Y.A.c] J fun e w'=>∃g b,e=.returned (.func (.func 183) #[] #[.pointer (some ⟨g,0,none⟩)])/\HsAt w' g b V.st/\Below J.heap.size J w':=fun J hb=>by
  have h5:=(k4.below hb).at_;exact rx5 Y.A.a Y.A.n Y.A.c V.st J (by rw[h5.alen];omega) h5.st.now.row
 have z0:∀J,Below W4 W4 J->J.cell? (w:Nat)=some (.pointer (some Y.s))/\J.cell? (Y.s,3)=some (.pointer (some Y.mm))/\J.cell? (Y.s,5)=some (.slice Y.A.a Y.A.n Y.A.c):=fun J hb=>by
  have h5:=(k4.below hb).at_.box;have q3:=h5.cell 3;have q5:=h5.cell 5;simp only[Yw.cells,gE0,gE1]at q3 q5;exact⟨(d7.below hb).cell 0,q3,q5⟩
 have r3:∀(A5:Option Addr) (k5 c5 g6 b6:Nat) (J:World),k5<=1000000->Row J.heap.size J A5 k5 5 (itc V.mem)->HsAt J g6 b6 V.st->Calls prog 117 #[.slice A5 k5 c5,.func (.func 183) #[] #[g6]] J (sq1 J (St.live V)):=fun A5 k5 c5 g6 b6 J hk hr hh=>keep_any 183 (fun _ _=>rfl) #[g6] (fun x=>decide (x∈V.st)) A5 k5 c5 V.mem J hk hr (fun x w7 l4=>lk5 x g6 b6 V.st w7 (hh.below l4));have z3:=H_ r3;have z4:=H_ y9;have z5:=H_ y';have x3:=H_ z0;have z6:=H_ k4;have n9:=H_ d7;have n':=H_ n6;have z7:=H_ y6;have z8:=H_ r2;have r4:=H_ (d_ y7 n4);clear y9 y' z0 r3 k4 d7 n6 y6 r2 y7 n4 h0 r0 r1;go_wp2_with fail;clear G4 t0;refine w_h W4 fun E=>?_;refine w_v 0 E ?_ (k:=kz33);go_simp;refine w_v 1 E ?_ (k:=kz33);go_simp;refine w_v 2 E ?_ (k:=kz33);go_simp;refine w_v 3 E ?_ (k:=kz33);go_simp;refine w_v 5 E ?_ (k:=kz33);go_simp;refine w_v 6 E ?_ (k:=kz33);go_simp;refine w_v 7 E ?_ (k:=kz33);go_simp;refine w_v 8 E ?_ (k:=kz33);go_simp;refine w_r 4 fun K hK=>?_;go_simp
 with_reducible refine(z4.out _ E).mono ?_
 rintro e w5 ⟨A5,k5,c5,rfl,r5,z9,z'⟩;replace r5:=H_ r5;go_simp;refine hK.out _ _ (az E z') ?_;clear E hK K;intro E;go_simp;refine w_r 9 fun K hK=>?_;go_simp
 with_reducible refine(z5.out _ E).mono ?_
 rintro e w6 ⟨g6,b6,rfl,A0,l5⟩;go_simp;refine hK.out _ _ (az E l5) ?_;clear E hK K;intro E;go_simp;refine w_r 10 fun K hK=>?_;go_simp
 with_reducible refine(z3.out A5 k5 c5 g6 b6 w6 (by have:=r5.out;omega) ((z9.row.below l5).up l5.size) A0).mono ?_
 rintro e w7 ⟨A7,k7,c7,rfl,b8,A1,l4⟩;replace b8:=H_ b8;go_simp;refine hK.out _ _ (az E l4) ?_;clear E hK K;intro E;go_simp;refine w_v 11 E ?_ (k:=kz33);go_simp;refine w_d ?_;have r6:=z6.below E;have o1:=n9.below E;have b9:=n'.below E;have o2:=z8.below E;have h9:=own_below z7.out E;have A6:(W2:Nat)<=(Q:Nat)/\(Q:Nat) < (W4:Nat)/\(W4:Nat)<=(w7:Nat):=⟨r4.2,r4.1,E.size⟩;have l6:∀g∈XY X Y,g < (w:Nat):=HX.out;have A9:=G0.out;have f1:uw ((W:Nat)::XY X Y) w7 (FlB Q w Y.s none 0 [] ⟨A3,Y.T.n,c3⟩ Y.q V.tabs):=fun J c'=>by
  have n1:(Q:Nat)∉(W:Nat)::XY X Y:=fun H=>by
   rcases h_.1 H with q|q
   ·omega
   ·have:=l6 _ q
    omega
  have n2:(w:Nat)∉(W:Nat)::XY X Y:=fun H=>by
   rcases h_.1 H with q|q
   ·omega
   ·have:=l6 _ q
    omega
  obtain⟨P',c0,q1,q2,q3,q4⟩:=ay h9;injection q1 with q1 _ qc;subst q1 qc;have l7:=(Way.tabs HH.out r6 (G:=(W:Nat)::XY X Y) (fun g C=>by
   rcases h_.1 C with q|q
   ·exact .inr o_
   ·exact .inl q)) J c'
  exact⟨o2.chg c' n1,o1.chg c' n2,Row.nil_,HQ,(nz c' (Row.own h9) l_ (fun j _ a O H=>by
   have z1:=(q4 a O).1
   rcases h_.1 H with q|q
   ·omega
   ·have:=l6 _ q
    omega)).up c'.size,q2,q3,ov1 h9,l7.2.2.2.2.2⟩
 have a6:=H_ r6;have h':=H_ h9;have d8:=H_ f1;have i1:=H_ b9;have r7:=H_ A1;have i2:=H_ (d_ A6 A9);have r8:Hid (∀g,(Value.slice A3 Y.T.n c3).ownBlock=some g->(W2:Nat)<=g/\g < (Q:Nat)):=G3;have A':=H_ b8;clear r6 h9 f1 b9 o1 o2 A1 E A6 l6 A9 l4 A0 z9 z' l5 z3 z4 z5 x3 z6 n9 n' z7 z8 r4 b8 d6 k0;go_upto_if 50 with (fail)
 go_cut [] (fun wx=>∃S2 X2 AF nf cf add T q ts,FlM w X Y V W Q R S.load wx S2 X2 AF nf cf add T q ts)
 case first=>
  have b8:=A'.out.out
  by_cases hz:k7=0
  ·have e2:(0 < k7)=False:=eq_false o_
   have i3:St.live V=[]:=ae_.1 o_;have o:=HR.out;rw[if_pos i3]at o;have HM:Hid (FlM w X Y V W Q R S.load w7 S X none 0 0 [] ⟨A3,Y.T.n,c3⟩ Y.q V.tabs):=H_ ⟨a6,i1,o_,d8,o,o_,(fun a O=>by cases O),(fun U=>by
    have:=i2.out;have:=HX.out _ U;omega),by
    have:=i2.out;refine⟨o_,o_,o_,fun H=>?_⟩;have:=HX.out _ H;omega⟩
   clear o i3 b8 e2;subst hz;go_wp2_with fail
   go_meet
   case rel=>exact⟨_,_,_,_,_,_,_,_,_,HM⟩
  ·have r3:0 < k7:=o_
   have t0:=d8.now.2.1.c0;have i3:St.live V≠[]:=fun e=>hz (by rw[b8,e];rfl);have o:=HR.out;rw[if_neg i3]at o;have G6:(St.live V).length<=2000:=by
    have q:=x4;unfold Tb.good at q;simp only[N_,decide_eq_true_eq]at q;exact q.1.1
   have f3:=pk2 a6.at_ A7 k7 c7 (St.live V) o_ r7.nc r7.row (fun x hx=>x5 x ((ac_.1 hx).1)) x4 0 o_;have r9:=tk1 S;obtain⟨n,hn⟩:=n_ (St.number S);rw[<-hn]at f3 o r9;obtain⟨a,O⟩:=n_ (St.write S (St.live V));have B1:a.1.load<=S.load+3:=by rw[O];exact cq1 S (St.live V)
   rw[<-O]at f3 o;obtain⟨S8,r'⟩:=a;unfold gj3 at f3;simp only at f3 o B1;have G8:=H_ f3;have B2:=H_ o;clear f3 o O hn G6 i3 hz b8;go_wp2_with fail
   refine m_ G8 ?_
   rintro e I ⟨va,vb,vp,X8,rfl,e8,B3,b',m0,d1⟩;have k8:Way w X Y V I X8 S8:=⟨B3,e8.trans a6.d,a6.c.trans b' a6.f,fun g C=>by
    rcases m0 g C with q|q
    ·exact .inl q
    ·exact .inr (g_ a6.c.size q)⟩
   by_cases h8:r'=0
   ·subst h8
    obtain⟨f,G',B4,H0,l7⟩:=d1 rfl;have B5:=B4.symm;have H1:=H_ l7;clear d1 l7 B4;subst G' H0 B5;have o:=B2.out;rw[if_neg s_]at o;have B6:=d8.step (G:=(W:Nat)::XY X8 Y) (c:=b'.mono fun g C=>.inl (f_ _ C)) (fun g C=>by
     rcases h_.1 C with q|q
     ·exact .inl (by rw[q];exact p_)
     ·exact(m0 g q).imp (f_ _) id)
    have hz:=i2.out;have i4:∀g,(w:Nat)<=g->g < (w7:Nat)->g∉XY X Y/\g∉XY X8 Y:=fun g h1 h2=>by
     have z1:g∉XY X Y:=fun H=>by
      have:=HX.out g H;omega
     refine⟨z1,fun H=>?_⟩
     rcases m0 g H with q|q
     ·exact z1 q
     ·omega
    have B7:=i1.chg b' (i4 _ o_ o_).1;have H2:=jv h'.out b' (fun g e H=>by
     have z1:=(h'.lt g e).1;have:=HX.out g H;omega)
    have B8:=b_ I (.cells #[.int .i64 0,n,f] 178);have H3:=BoxO.new I #[.int .i64 0,n,f] 178;have i5:=(Below.refl (I.alloc (.cells #[.int .i64 0,n,f] 178)).heap.size (I.alloc (.cells #[.int .i64 0,n,f] 178))).alloc l_ (.cells #[.int .i64 0,n] 173);have B9:=BoxO.new (I.alloc (.cells #[.int .i64 0,n,f] 178)) #[.int .i64 0,n] 173;have d2:=az B8 i5;have d3:=B7.below d2;have B':=H3.below i5;have C0:=B6.now.1.below d2;have cx:Chg [(W:Nat)] ((I.alloc (.cells #[.int .i64 0,n,f] 178)).alloc (.cells #[.int .i64 0,n] 173)) (((I.alloc (.cells #[.int .i64 0,n,f] 178)).alloc (.cells #[.int .i64 0,n] 173)).setCell (W,1) (.slice (some ⟨(I:Nat)+1,0,none⟩) 1 1)):=(Chg.refl _ _).setCell _ (.inl s_);have J9:(I:Nat)≠(W:Nat):=by
     have:=b'.size;omega
    have d9:=B'.chg cx (by simp;omega);have C1:=B9.chg cx (by
     have:=b'.size;simp;omega)
    have o4:=C0.chg cx (by simp;omega);have s3:=d3.store 1 (.slice (some ⟨(I:Nat)+1,0,none⟩) 1 1);have a1:=(Below.refl (((I.alloc (.cells #[.int .i64 0,n,f] 178)).alloc (.cells #[.int .i64 0,n] 173)).setCell (W,1) (.slice (some ⟨(I:Nat)+1,0,none⟩) 1 1)).heap.size (((I.alloc (.cells #[.int .i64 0,n,f] 178)).alloc (.cells #[.int .i64 0,n] 173)).setCell (W,1) (.slice (some ⟨(I:Nat)+1,0,none⟩) 1 1))).alloc l_ (.cells #[.int .i64 0,n,f] 178);have o5:=wj3 (BoxO.new (((I.alloc (.cells #[.int .i64 0,n,f] 178)).alloc (.cells #[.int .i64 0,n] 173)).setCell (W,1) (.slice (some ⟨(I:Nat)+1,0,none⟩) 1 1)) #[.int .i64 0,n,f] 178) rfl;rw[show (((I.alloc (.cells #[.int .i64 0,n,f] 178)).alloc (.cells #[.int .i64 0,n] 173)).setCell (W,1) (.slice (some ⟨(I:Nat)+1,0,none⟩) 1 1)).heap.size=(I:Nat)+1+1 from by simp]at o5;have C2:Chg [(W:Nat)] I ((((I.alloc (.cells #[.int .i64 0,n,f] 178)).alloc (.cells #[.int .i64 0,n] 173)).setCell (W,1) (.slice (some ⟨(I:Nat)+1,0,none⟩) 1 1)).alloc (.cells #[.int .i64 0,n,f] 178)):=((Chg.of_below d2 [(W:Nat)]).trans cx (fun g C=>.inl C)).trans (Chg.of_below a1 []) (fun g C=>by cases C);have C3:=jv H2 C2 (fun g e H=>by
     have z1:=(h'.lt g e).1;have z2:=c_.1 H;omega)
    have K0:∀g,(Value.slice A3 Y.T.n c3).ownBlock=some g->(W2:Nat)<=g/\g < (w7:Nat):=fun g e=>h'.lt g e;have C4:=o4.below a1;have s4:=s3.below a1;have o6:=C1.below a1;have y1:=d3.c1;have z1:=d3.free 1;have u0:=d9.c0;have u1:=d9.c1;have u2:=d9.c2;have v0:=o4.c0;obtain⟨i0,H4,H5,C5,H6⟩:=info_parts ij2;have H7:(I:Nat) < ((((I.alloc (.cells #[.int .i64 0,n,f] 178)).alloc (.cells #[.int .i64 0,n] 173)).setCell (W,1) (.slice (some ⟨(I:Nat)+1,0,none⟩) 1 1)).alloc (.cells #[.int .i64 0,n,f] 178)).heap.size:=d9.below a1|>.lt
    have K1:=b'.size;have H8:=H_ o;clear o;go_wp2_with (at_builtin;refine iq ?_);refine gz (xw rfl (.tmp 64) (.tmp 66) _ rfl (W2:Nat) 178 i0 _ 3 24 underlying91 H4 H5 C5 H6 rfl o_ ((((I.alloc (.cells #[.int .i64 0,n,f] 178)).alloc (.cells #[.int .i64 0,n] 173)).setCell (W,1) (.slice (some ⟨(I:Nat)+1,0,none⟩) 1 1)).alloc (.cells #[.int .i64 0,n,f] 178)) b0_ o_ (.slice A3 Y.T.n c3) Y.T.n (hcells Y.q) rfl C3 ((((I.alloc (.cells #[.int .i64 0,n,f] 178)).alloc (.cells #[.int .i64 0,n] 173)).setCell (W,1) (.slice (some ⟨(I:Nat)+1,0,none⟩) 1 1)).alloc (.cells #[.int .i64 0,n,f] 178)).heap.size _ 1 1 o_ [.int .i64 0,n,f] rfl o5 (fun v hv=>yq1 [(((0,n),Tb.rows (St.live V)),f)] v (by simpa [hcells] using hv)) (Y.T.n+1) (hcells (Y.q++[(((0,n),Tb.rows (St.live V)),f)])) rfl (by simp[hcells]) (by have:=y5.out;unfold maxLen;omega) (by have:=y5.out;omega) ?_);intro A4 c4 f4 p1 p2 p3 p4 p5 p6;have hO:∀g∈(Value.slice A3 Y.T.n c3).ownBlock.toList,(W2:Nat)<=g/\g < (Q:Nat):=fun g C=>r8.out g (bg_.1 C);have i6:Chg (Value.slice A3 Y.T.n c3).ownBlock.toList ((((I.alloc (.cells #[.int .i64 0,n,f] 178)).alloc (.cells #[.int .i64 0,n] 173)).setCell (W,1) (.slice (some ⟨(I:Nat)+1,0,none⟩) 1 1)).alloc (.cells #[.int .i64 0,n,f] 178)) f4:=Chg.qy p3 (fun b e=>by rw[e];exact c_.2 rfl);have s7:=i2.out;have d':=C4.chg i6 (fun H=>by
     have:=hO _ H;omega)
    have ct:Chg [(Q:Nat)] f4 (f4.setCell Q (.slice A4 (Y.T.n+1) c4)):=(Chg.refl _ _).setCell _ (.inl s_);have a2:∀g∈[(W:Nat),(Q:Nat)] ++(Value.slice A3 Y.T.n c3).ownBlock.toList,(w:Nat)<=g/\g < (w7:Nat):=fun g C=>by
     rcases q_.1 C with q|q
     ·simp only[h_,cC_,or_false]at q
      omega
     ·have:=hO g q
      omega
    have m1:Chg ([(W:Nat),(Q:Nat)] ++(Value.slice A3 Y.T.n c3).ownBlock.toList) I (f4.setCell Q (.slice A4 (Y.T.n+1) c4)):=
     (((C2.mono (G:=[(W:Nat),(Q:Nat)] ++(Value.slice A3 Y.T.n c3).ownBlock.toList) fun g C=>.inl (by rw[c_.1 C];simp)).trans i6 (fun g C=>.inl (k_ _ C)))).trans ct (fun g C=>.inl (by rw[c_.1 C];simp))
    have s8:Way w X Y V (f4.setCell Q (.slice A4 (Y.T.n+1) c4)) X8 S8:=Way.scr HH.out k8 (fun g C=>⟨(a2 g C).1,(i4 g (a2 g C).1 (a2 g C).2).2⟩) m1;have i7:=(s4.chg i6 (fun H=>by
     have:=hO _ H;omega)).chg ct (fun H=>by
     have:=c_.1 H;omega)
    have i8:=d'.store 0 (.slice A4 (Y.T.n+1) c4);have e9:(I.alloc (.cells #[.int .i64 0,n,f] 178)).heap.size=(I:Nat)+1:=by simp
    have C6:((((I.alloc (.cells #[.int .i64 0,n,f] 178)).alloc (.cells #[.int .i64 0,n] 173)).setCell (W,1) (.slice (some ⟨(I:Nat)+1,0,none⟩) 1 1)).alloc (.cells #[.int .i64 0,n,f] 178)).heap.size=(I:Nat)+3:=by simp
    rw[e9]at o6;have i9:=(o6.chg i6 (fun H=>by
     have:=hO _ H;omega)).chg ct (fun H=>by
     have:=c_.1 H;omega)
    have o7:=k8.at_.lt;have s9:∀a,A4=some a->((W2:Nat)<=a.block/\a.block < (Q:Nat))\/a.block=(I:Nat)+3:=fun a O=>by
     obtain⟨P',c0,q1,q2,q3,q4⟩:=ay p1;injection q1 with q1 _ qc;subst q1;obtain⟨_,_,s1,s2⟩:=q4 a O;subst O;obtain⟨ab,ao,N8⟩:=a;simp only at s1 s2;subst s1 s2
     rcases p6 with p6|p6
     ·exact .inl (r8.out ab (by rw[<-p6];simp[Value.ownBlock]))
     ·right
      rw[C6]at p6;simpa [Value.ownBlock] using p6
    have i':=B6.now.2.1.chg m1 (fun H=>by
     rcases q_.1 H with q|q
     ·simp only[h_,cC_,or_false]at q
      omega
     ·have:=hO _ q
      omega)
    have m2:∀g,(w:Nat)<=g->g < (w7:Nat)->g≠(W:Nat)->g∉(W:Nat)::XY X8 Y:=fun g h1 h2 h3 H=>by
     rcases h_.1 H with q|q
     ·exact h3 q
     ·exact(i4 g h1 h2).2 q
    have m3:∀g,(I:Nat)<=g->g∉(W:Nat)::XY X8 Y:=fun g h1 H=>by
     rcases h_.1 H with q|q
     ·omega
     ·have:=o7 g q
      omega
    have hM:FlM w X Y V W Q R S.load (f4.setCell Q (.slice A4 (Y.T.n+1) c4)) S8 X8 (some ⟨(I:Nat)+1,0,none⟩) 1 1 [(0,n)] ⟨A4,Y.T.n+1,c4⟩ (Y.q++[(((0,n),Tb.rows (St.live V)),f)]) (V.tabs++[((0,n),Tb.rows (St.live V))]):=by
     refine⟨s8,i7,B_ _,fun J c'=>⟨i8.chg c' (m2 _ o_ o_ o_),i'.chg c' (m2 _ o_ o_ o_),zx3 (i9.chg c' (m3 _ o_)) rfl,by simp[HQ.out],?_,p4,p5,ov1 p1,fun p hp=>?_⟩,H8,B1,fun a O=>?_,(i4 _ o_ o_).2,?_⟩
     ·refine(nz c' ((nz ct (Row.own p1) l_ (fun j _ a O H=>?_)).up ct.size) l_ (fun j _ a O=>?_)).up c'.size
      ·have q1:=c_.1 H
       rcases s9 a O with q|q<;>omega
      ·rcases s9 a O with q|q
       ·exact m2 _ o_ o_ o_
       ·exact m3 _ o_
     ·rcases q_.1 hp with q|q
      ·exact(Way.tabs HH.out s8 (G:=(W:Nat)::XY X8 Y) (fun g C=>by
        rcases h_.1 C with q|q
        ·exact .inr o_
        ·exact .inl q) J c').2.2.2.2.2 p q
      ·rw[c_.1 q]
       refine H1.out ([(W:Nat),(Q:Nat)] ++(Value.slice A3 Y.T.n c3).ownBlock.toList++XY X8 Y) (fun g C=>?_) J ((m1.mono fun g C=>.inl (x_ _ C)).trans c' (fun g C=>?_))
       ·rcases q_.1 C with q|q
        ·exact .inr (a2 g q).2
        ·exact .inl q
       ·rcases h_.1 C with q|q
        ·exact .inl (by rw[q];simp)
        ·exact .inl (k_ _ q)
     ·injection O with O
      subst O;have q1:=m3 ((I:Nat)+1) o_;exact⟨fun H=>q1 (f_ _ H),fun e=>q1 (by rw[show (I:Nat)+1=(W:Nat) from e];exact p_),i9.lt⟩
     ·exact⟨o_,o_,i8.lt,fun H=>(i4 _ o_ o_).2 H⟩
    have HM:=H_ hM;have v1:=d'.c0;have v2:=d'.free 0;clear hM s9 i' m2 m3 i9 i8 i7 s8 m1 a2 ct d' i6 hO o7 p1 p2 p3 p4 p5 p6 e9 C6 s7;go_wp2_with fail
    go_meet
    case rel=>exact⟨_,_,_,_,_,_,_,_,_,HM⟩
   ·have e3:((r':Int)==0)=false:=by simp;omega
    have o:=B2.out;rw[if_pos h8]at o;have HZ:Hid (∀w',Below I I w'->gz1 X Y w R (.returned (.int .i64 r')) w'):=H_ fun w' hb=>by
     rw[o];exact⟨rfl,(k8.below hb).upd⟩
    have C7:=b_ I (.cells #[va,vb,.pointer vp] 178);have HY:=H_ (HZ.out _ C7);clear o h8 d1 k8 B3 b' m0 e8 C7 HZ;go_wp2;go_ret;exact HY
   all_goals omega
 case rest=>
  obtain⟨S2,X2,AF,nf,cf,add,T,q,ts,H⟩:=hcut;have H9:=H.load;have O0:=H.nf1;have f5:=sy2 S2;have t0:=H.fix.now.2.1.c0;have f6:=lx4 H.way.at_ o_;have r9:=tk1 S2;have o:=H.res;unfold St.lx3 at o;obtain⟨n,hn⟩:=n_ (St.number S2);rw[<-hn]at f6 o r9;obtain⟨a,O⟩:=n_ (St.fresh S2);rw[<-O]at f6 o f5;obtain⟨S5,s'⟩:=a;unfold oy5 at f6;simp only at f6 o f5;have C9:=H_ f6;have m4:=H_ o;have HM:=H_ H;have s7:=i2.out;clear f6 o O hn H A' r7 d8 i1 h' a6 HR r8;go_wp2_with fail
  refine m_ C9 ?_
  rintro e w5 ⟨p5,n5,X5,rfl,e5,t3,f7,j0,d1⟩;have H:=HM.out;have k5:Way w X Y V w5 X5 S5:=⟨t3,e5.trans H.way.d,H.way.c.trans f7 H.way.f,fun g C=>by
   rcases j0 g C with q|q
   ·exact H.way.f g q
   ·exact .inr (g_ H.way.c.size q)⟩
  have a4:=b_ w5 (.cells #[.pointer p5] 90);have t5:=BoxO.new w5 #[.pointer p5] 90
  by_cases h5:s'=0
  ·subst h5
   obtain⟨g,H',C',t6,D0,D1⟩:=d1 rfl;have D2:=C'.symm;clear d1 C';subst H' D2;have o:=m4.out;rw[if_neg s_]at o;have o8:(W:Nat) < (wc:Nat):=H.box.lt;have j2:(W:Nat)∉XY X2 Y:=H.gxo;have j3:(W:Nat)∉XY X5 Y:=fun U=>by
    rcases j0 _ U with q|q
    ·exact j2 q
    ·omega
   have j4:=k5.at_.lt;have e4:=(H.box.chg f7 j2).below a4;have cx:Chg [(W:Nat)] (w5.alloc (.cells #[.pointer (some ⟨g,0,none⟩)] 90)) ((w5.alloc (.cells #[.pointer (some ⟨g,0,none⟩)] 90)).setCell (W,2) n):=(Chg.refl _ _).setCell _ (.inl s_);have b9:=e4.store 2 (.int .i64 n);have k7:Way w X Y V ((w5.alloc (.cells #[.pointer (some ⟨g,0,none⟩)] 90)).setCell (W,2) n) X5 S5:=Way.scr HH.out (k5.below a4) (G:=[(W:Nat)]) (fun g C=>by rw[c_.1 C];exact⟨o_,j3⟩) cx;have o9:=t6.lt;have D3:(wc:Nat)<=(w5:Nat):=f7.size;have o':=t5.chg cx (fun U=>by have:=c_.1 U;omega);have p0:=(t6.below a4).chg cx (fun U=>by have:=c_.1 U;omega);have t8:Chg ((W:Nat)::XY X2 Y) wc ((w5.alloc (.cells #[.pointer (some ⟨g,0,none⟩)] 90)).setCell (W,2) n):=((f7.mono fun g C=>.inl (f_ _ C)).trans (Chg.of_below a4 []) (fun g C=>by cases C)).trans cx (fun g C=>.inl (by rw[c_.1 C];exact p_));have f57:∀g∈(W:Nat)::XY X5 Y,g∈(W:Nat)::XY X2 Y\/(wc:Nat)<=g:=fun g C=>by
    rcases h_.1 C with q|q
    ·exact .inl (by rw[q];exact p_)
    ·exact(j0 g q).imp (f_ _) id
   have f1:=H.fix.step t8 f57;have x2:=e4.cell 2;have y2:=e4.free 2;have t7:=f1.now.2.1.cell 0;have t1:=k7.at_.box.cell 1;simp only[Yw.cells,gE0,gE1]at x2 t7 t1;have t':=qz1 X5.d k7.at_.man k7.at_.row.row k7.at_.row.nb;unfold Vw.val at t';have D4:=H_ t';have D5:=H_ o;have a6:=H_ k7;have D6:=H_ f1;have e6:=H_ (d_ t8 f57);have l1:=H_ b9;have u3:=H_ o';have a7:=H_ (d_ p0 (d_ D0 (d_ D1 (d_ o9 (d_ D3 o8)))));have I0:=H_ (d_ j4 j3);have I1:=H_ e5;have K':S5.load<=S.load+6:=o_
   clear t' o k7 f1 t8 f57 b9 o' p0 e4 t5 cx D0 D1 o9 D3 o8 j2 j3 j4 k5 t3 f7 j0 e5 a4 H C9 m4 t6 f5 H9;go_wp2_with fail;generalize I2:((w5.alloc (.cells #[.pointer (some ⟨g,0,none⟩)] 90)).setCell (W,2) n)=w7 at *
   refine m_ D4 ?_
   rintro e I ⟨A8,c8,rfl,D7,u4⟩;have k8:=a6.below u4;have j5:=name_any (str Mn.kLog) (by rw[jy];decide) V.M.v.log o_ I k8.at_.dm.env;rw[kz]at j5;rw[show str Mn.kLog=({ data:=#[108,111,103] }:ByteArray) from rfl]at j5;obtain⟨el,u6⟩:=n_ (Mn.name Mn.kLog V.M.v.log);have L0:el.length<=1000:=by rw[u6];exact wk1 _ _
   have o:=D5.out;rw[<-u6]at j5 o;have I3:∀J,(Instr.field 106 (.agg #[V.M.v.log,.slice A8 Y.P.n c8,[V.M.v.floor],[V.M.v.cert],[V.M.v.at_],[V.M.v.lease]]) 0).run prog J=.ok (.int .i64 V.M.v.log) J:=fun _=>rfl;have D8:=H_ j5;have D9:=H_ o;clear j5 u6 o D5 D4 D7 x2 y2 t1 t7 I2;go_wp2_with fail
   refine m_ D8 ?_
   rintro e w9 ⟨rfl,u7⟩;have a5:=az u4 u7;have k9:=k8.below u7;have j6:=D6.below a5;have a0:=l1.below a5;have p8:=u3.below a5;have p9:=a7.1.below a5;have t9:=j6.now.2.1.cell 0;have b0:=a0.cell 0;have b1:=a0.cell 1;have b2:=a0.cell 2;have b3:=a0.cell 3;have b4:=a0.cell 4;have b5:=a0.cell 5;have b6:=a0.cell 6;simp only[List.set,gE0,gE1]at t9 b0 b1 b2 b3 b4 b5 b6;have L4:=a5.size;have L5:(w5:Nat) < (w7:Nat):=u3.lt;have p':=HM.out.out;have D':=HM.gtx;have I4:Y.s < (w:Nat):=s7.2.2.1;have E0:by6 w w9 X5 Y V 121 #[(Q:Nat),(w5:Nat),(w:Nat)] (St.turned n ts):=by
    intro w1 X1 P1 S1 M1 b e1 f8 u' I5 I6;have f5:=j6 w1 (f8.mono fun g C=>.inl (f_ _ C));have I7:(w5:Nat)∉XY X5 Y:=fun U=>by have:=I0.1 _ U;omega
    have C5:=f8.size;refine oy3 (w0:=w) HH.out (k9.c.trans f8 k9.f) (fun g C=>?_) I6 Q w5 w g T q n ts f5.1 (p8.chg f8 I7) f5.2.1 o_ (by have:=a7.2.2.2.2.1;have:=a7.2.2.2.2.2;omega) o_ ?_ (by have:=a7.2.1;have:=HM.way.c.size;omega) (fun U=>?_) (I5.imp id (fun z a O=>?_)) ?_
    ·rcases u' g C with z|z
     ·exact k9.f g z
     ·exact .inr (g_ k9.c.size z)
    ·rw[e1,I1.out]
     exact p9.chg f8 a7.2.2.1
    ·rcases u' g U with z|z
     ·exact a7.2.2.1 z
     ·have:=a7.2.2.2.1
      omega
    ·have:=z a O
     have:=a7.2.2.2.1;omega
    ·refine(HM.fix.step ((e6.1.trans (Chg.of_below a5 []) (fun g C=>by cases C)).trans f8 (fun g C=>?_)) (fun g' C=>?_)).mono (fun J hq=>hq.2.2.2)
     ·exact e6.2 g (f_ _ C)
     ·rcases h_.1 C with z|z
      ·exact .inr (by rw[z];exact a7.2.1)
      ·rcases u' g' z with z|z
       ·exact e6.2 g' (f_ _ z)
       ·have:=a7.2.2.2.2.1
        exact .inr o_
   have f9:=vj4 k9.at_ ⟨[],add,n,0,0,0,0⟩ none 0 0 AF nf cf o_ o_ Row.nil_ j6.now.2.2.1 (fun a O=>by cases O) (fun a O U=>by
    have z1:=p' a O;have z2:=e6.2 a.block (f_ _ U)
    rcases z2 with z|z
    ·rcases h_.1 z with z|z
     ·exact z1.2.1 z
     ·exact z1.1 z
    ·omega) F0 F1 F2 121 _ (St.turned n ts) (fun _ _=>rfl) (B:=(w:Nat)) k9.c.size E0
   obtain⟨r,hr⟩:=n_ (St.turn S5 V ⟨[],add,n,0,0,0,0⟩ (St.turned n ts));have I8:r.1.load<=S5.load:=by rw[hr];exact ix3 _ _ _ _
   have o:=D9.out;unfold Ed.val at f9;simp only[cB_]at f9;rw[<-hr]at f9;replace o:R=if r.2.2=0 then ((r.1.remove el).1,r.2.1,0) else r:=by rw[o,hr]
   obtain⟨I9,O4,j7⟩:=r;simp only at f9 o I8;have v3:=H_ f9;have I':=H_ o;have m5:=H_ k9;have E1:=H_ j6;clear f9 E0 o hr D9 D8 k8 k9 j6 a0 p8 p9 a5 u4 u7 p' D' I4 l1 u3 D6 a6;go_wp2_with fail;clear I3 t9 b0 b1 b2 b3 b4 b5 b6
   refine m_ v3 ?_
   rintro e E2 ⟨rfl,v4,v5,v6,c9,a8,e7,j8⟩;have m6:=m5.c.trans e7 m5.f;have m7:∀g∈XY v4 v5,g∈XY X Y\/(w:Nat)<=g:=fun g C=>by
    rcases j8 g C with z|z
    ·exact m5.f g z
    ·exact .inr z
   have m8:v4.d=X.d:=v6.trans m5.d;have o:=I'.out
   by_cases v7:j7=0
   ·subst v7
    rw[if_pos rfl]at o;have E3:=(E1.out E2 (e7.mono fun g C=>.inl (f_ _ C))).2.1;have t10:=E3.cell 0;have d10:=a8.box.cell 0;rw[c9]at d10;simp only[Yw.cells,gE0,gE1]at t10 d10;have j9:=(Acc.start (F:=[]) a8.dm).remove (str el) (by rw[jy];unfold maxLen;omega) o_;rw[kz]at j9;obtain⟨a,O⟩:=n_ (I9.remove el);rw[<-O]at j9 o;obtain⟨O5,L7⟩:=a;simp only at j9 o;have E4:=H_ j9;have HS:=H_ a8;have HC:=H_ (d_ m6 (d_ m7 (d_ m8 c9)));have J0:=H_ o;clear j9 a8 m6 m7 m8 o O E3 v3 v6 c9 e7 j8;go_wp2_with fail
    refine m_ E4 ?_
    rintro e J1 ⟨rfl,Xq,hq⟩;obtain⟨J2,E5,E6,q6,q7⟩:=HS.disk hq.updM;have hz:gz1 X Y w R (.returned (.int .i64 0)) J1:=by
     rw[J0.out];refine⟨rfl,J2,v5,E5.trans HC.2.2.1,HC.2.2.2,E6,HC.1.trans q6 HC.2.1,fun g C=>?_⟩
     rcases q7 g C with z|z
     ·exact HC.2.1 g z
     ·exact .inr (g_ HC.1.size z)
    have HZ:=H_ hz;clear hz hq E6 q6 q7 E5 t10 d10 E4;go_wp2;go_ret;exact HZ
   ·have e3:((j7:Int)==0)=false:=by simp;omega
    rw[if_neg v7]at o;have hz:gz1 X Y w R (.returned (.int .i64 j7)) E2:=by
     rw[o];exact⟨rfl,v4,v5,m8,c9,a8,m6,m7⟩
    have HZ:=H_ hz;clear hz o v7 m6 m7 m8 a8 e7 j8 v6 c9 v3;go_wp2;go_ret;exact HZ
  ·have e3:((s':Int)==0)=false:=by simp;omega
   have o:=m4.out;rw[if_pos h5]at o;have hz:gz1 X Y w R (.returned (.int .i64 s')) (w5.alloc (.cells #[.pointer p5] 90)):=by
    rw[o];exact⟨rfl,(k5.below a4).upd⟩
   have HZ:=H_ hz;clear hz o h5 d1 k5 t3 f7 j0 e5 a4 t5 m4 H;go_wp2;go_ret;exact HZ
theorem yx2 (h:SvAt w X S Y V) (A:Option Addr) (n c:Nat) (l:List It) (O:uw (XY X Y) w fun w=>Its 0 w A n c l):
  Calls prog 45 #[Y.s,.slice A n c] w fun e w'=>e=.returned (.tuple #[])/\SvAt w' X S { Y with A:=⟨A,n,c⟩ } { V with st:=l }/\Chg (XY X Y) w w':=by
 have c5:=h.box.cell 5;have f5:=h.box.free 5;have o:=h.box.store 5 (.slice A n c);have c6:=o.cell 6;have f6:=o.free 6;have H:=o.store 6 (.int .i64 n);simp only[Yw.cells,gE0,gE1,List.set]at c5 c6;have I:=H_ (sk1 Y.s 6 _ (n:Int) _ c6 f6);have E:Chg [Y.s] w ((w.setCell (Y.s,5) (.slice A n c)).setCell (Y.s,6) (.int .i64 n)):=((Chg.refl _ _).setCell _ (.inl s_)).setCell _ (.inl s_);have z:Chg (XY X Y) w ((w.setCell (Y.s,5) (.slice A n c)).setCell (Y.s,6) (.int .i64 n)):=E.mono fun g J=>.inl (by
  rw[c_.1 J];exact k_ _ (Yw.aj.2 (.inl rfl)))
 have C:=h.sbox (Y1:={ Y with A:=⟨A,n,c⟩ }) (V1:={ V with st:=l }) E H rfl rfl (O.step z (fun g J=>.inl J));have Q:=H_ C;clear C E z H o c6 f6 O h;go_enter func45,ntmps45;go_wp2_with fail;refine I.mono ?_;rintro e w1 ⟨rfl,rfl⟩;go_wp2;exact bodyPost_end (v:=.tuple #[]) (by simp[results,go_sem]) rfl ⟨rfl,Q.1,Q.2⟩
theorem ej5 (A:Option Addr) (n c:Nat) (l:List It) (w:World) (O:n<=1000000) (H:Row w w A n 5 (itc l)):
  Calls prog 52 #[.slice A n c] w fun e w'=>∃A' c',e=.returned (.slice A' n c')/\w'.ownsRow w 33 5 (.slice A' n c') n (itc l)/\Below w w w':=by
 obtain⟨I,o,z,C,E⟩:=info_parts wz;have J:=H_ H;clear H;go_enter func52,ntmps52;go_wp2_with (at_builtin;refine iq ?_);refine gz (yx rfl _ (.tmp 3) _ rfl (w:Nat) 33 I _ 5 40 underlying34 o z C E rfl o_ w b0_ l_ rfl (w:Nat) A n c (itc l) rfl J.out (ax1 l) (by unfold maxLen;omega) o_ ?_);intro A' c' w' h1 h2 h3 h4 h5;go_wp2;go_ret;exact⟨_,_,rfl,h1,h2⟩
theorem fy1 (h:SvAt w X S Y V) (z:V.st.length<=1000000):
  Calls prog 16 #[Y.s] w fun e w'=>∃A' c',e=.returned (.slice A' Y.A.n c')/\w'.ownsRow w 33 5 (.slice A' Y.A.n c') Y.A.n (itc V.st)/\Below w w w':=by
 have c5:=h.box.cell 5;simp only[Yw.cells,gE0,gE1]at c5;have o:=H_ (ej5 Y.A.a Y.A.n Y.A.c V.st w (by rw[h.alen];omega) h.st.now.row);clear h;go_enter func16,ntmps16;go_wp2_with fail;refine o.mono ?_;rintro e w1 ⟨A',c',rfl,h1,h2⟩;go_wp2;go_ret;exact⟨_,_,rfl,h1,h2⟩
theorem SvAt.put (h:SvAt w X S Y V) (e:X1.d=X.d) (hd:Dm w1 X1 S1) (c:Chg (Y.g::X.foot) w w1) (U:∀g∈X1.foot,g∈X.foot\/(w:Nat)<=g) {sz ct:Nat} (hl:LgAt w1 Y.g X.d V.nm sz ct):SvAt w1 X1 S1 Y { V with sz:=sz,ct:=ct }/\Chg (XY X Y) w w1/\∀g∈XY X1 Y,g∈XY X Y\/(w:Nat)<=g:=by
 have hn:∀g∈Y.foot,g∉X.foot:=h.apart.x;have I:Y.g∈Y.foot:=Yw.aj.2 (.inr (.inr (.inl rfl)));have C:Chg (XY X Y) w w1:=c.mono fun g o=>.inl (by
  rcases h_.1 o with rfl|o
  ·exact k_ _ I
  ·exact x_ _ o)
 have E:∀g∈XY X1 Y,g∈XY X Y\/(w:Nat)<=g:=fun g o=>by
  rcases q_.1 o with h1|h1
  ·rcases U g h1 with h2|h2
   ·exact .inl (x_ _ h2)
   ·exact .inr h2
  ·exact .inl (k_ _ h1)
 have hm:∀g∈Y.foot,g≠Y.g->g∉Y.g::X.foot:=fun g o a1 z=>by
  rcases h_.1 z with q|q
  ·exact a1 q
  ·exact hn g o q
 have J:=h.apart.s;have O:=h.apart.m;have Q:=h.apart.g;refine⟨⟨hd,by rw[e];exact h.box.chg c (hm _ (Yw.aj.2 (.inl rfl)) (fun e=>J (by rw[e];exact f_ _ p_))),by rw[e];exact h.man.chg c (hm _ (Yw.aj.2 (.inr (.inl rfl))) (fun e=>O (by rw[e];exact p_))),?_,h.pout,by rw[e];exact hl,h.mem.chg c (fun g o=>hm g (Yw.aj.2 ?_) (fun e=>Q (by rw[<-e];exact o))),h.its,h.tabs.step C E,h.st.step C E,⟨fun g o z=>?_,J,O,Q⟩,h.ng⟩,C,E⟩
 ·refine⟨(nz c h.row.row l_ (fun j hj a H z=>?_)).up c.size,h.row.nc,h.row.cm,h.row.nb,fun j hj a H=>⟨(h.row.away j hj a H).1,fun z=>?_⟩⟩
  ·rcases h_.1 z with q|q
   ·exact h.pout j hj a H (by rw[q];exact I)
   ·exact(h.row.away j hj a H).2 q
  ·rcases U _ z with h1|h1
   ·exact(h.row.away j hj a H).2 h1
   ·obtain⟨b,e,q1,_⟩:=h.row.row.cell j hj
    rw[H]at e;injection e with e;subst e;omega
 ·rcases h_.1 o with rfl|o
  ·exact .inr (.inr (.inr (.inl rfl)))
  ·exact .inr (.inr (.inr (.inr o)))
 ·rcases U g z with h1|h1
  ·exact hn g o h1
  ·have:=h.ylt g o
   omega
theorem SvAt.mput (h:SvAt w X S Y V) {z:List Nd} (Q:MmAt w1 Y.mm Y.L z) (c:Chg (Y.mm::skF Y.L Y.ns) w w1) (hf:∀g∈skF Y.L z,g∈skF Y.L Y.ns\/(w:Nat)<=g):SvAt w1 X S { Y with ns:=z } { V with mem:=Go.Proofs.YtfbkjjdfboagfaaGreatDoor.its z }/\Chg (XY X Y) w w1/\∀g∈XY X { Y with ns:=z },g∈XY X Y\/(w:Nat)<=g:=by
 have E:∀g∈Y.mm::skF Y.L Y.ns,g∈Y.foot:=fun g o=>Yw.aj.2 (by
  rcases h_.1 o with rfl|o
  ·exact .inr (.inr (.inr (.inl rfl)))
  ·exact .inr (.inr (.inr (.inr o))))
 have I:Chg (XY X Y) w w1:=c.mono fun g o=>.inl (k_ _ (E g o));have a4:∀g∈Y.mm::skF Y.L z,g∈Y.mm::skF Y.L Y.ns\/(w:Nat)<=g:=fun g o=>by
  rcases h_.1 o with rfl|o
  ·exact .inl p_
  ·exact(hf g o).imp (f_ _) id
 have H:∀g∈({ Y with ns:=z }:Yw).foot,g∈Y.foot\/(w:Nat)<=g:=fun g o=>by
  rcases Yw.aj.1 o with q|q|q|q|q
  ·exact .inl (Yw.aj.2 (.inl q))
  ·exact .inl (Yw.aj.2 (.inr (.inl q)))
  ·exact .inl (Yw.aj.2 (.inr (.inr (.inl q))))
  ·exact .inl (Yw.aj.2 (.inr (.inr (.inr (.inl q)))))
  ·rcases hf g q with q|q
   ·exact .inl (Yw.aj.2 (.inr (.inr (.inr (.inr q)))))
   ·exact .inr q
 have J:∀g∈XY X { Y with ns:=z },g∈XY X Y\/(w:Nat)<=g:=fun g o=>by
  rcases q_.1 o with q|q
  ·exact .inl (x_ _ q)
  ·exact(H g q).imp (k_ _) id
 have O:=h.apart.s;have U:=h.apart.m;have a0:=h.apart.g;have hs:Y.s∉Y.mm::skF Y.L Y.ns:=fun Q=>O (f_ _ (f_ _ Q));have a1:Y.m∉Y.mm::skF Y.L Y.ns:=fun Q=>U (f_ _ Q);have old:∀x,x∉Y.mm::skF Y.L Y.ns->x < (w:Nat)->x∉Y.mm::skF Y.L z:=fun x h1 h2 h3=>by
  rcases a4 x h3 with q|q
  ·exact h1 q
  ·omega
 have l1:=h.box.lt;have l2:=h.man.lt;have l3:=h.log.lt;refine⟨⟨h.dm.chg c (fun g o=>⟨h.apart.x g (E g o),h.ng g (E g o)⟩),h.box.chg c hs,h.man.chg c a1,?_,?_,h.log.chg c a0,Q,rfl,h.tabs.step I J,h.st.step I J,⟨fun g o C=>?_,?_,?_,old _ a0 l3⟩,fun g o=>?_⟩,I,J⟩
 ·exact⟨(nz c h.row.row l_ (fun j hj a ha C=>h.pout j hj a ha (E _ C))).up c.size,h.row.nc,h.row.cm,h.row.nb,h.row.away⟩
 ·intro j hj a ha C
  rcases H _ C with q|q
  ·exact h.pout j hj a ha q
  ·obtain⟨b,e,q1,_⟩:=h.row.row.cell j hj
   rw[ha]at e;injection e with e;subst e;omega
 ·rcases H g o with q|q
  ·exact h.apart.x g q C
  ·have:=h.dm.dk.lt g C
   omega
 ·intro C
  rcases h_.1 C with q|q
  ·exact O (by rw[q];exact p_)
  ·rcases h_.1 q with q|q
   ·exact O (by rw[q];exact f_ _ p_)
   ·exact old _ hs l1 q
 ·intro C
  rcases h_.1 C with q|q
  ·exact U (by rw[q];exact p_)
  ·exact old _ a1 l2 q
 ·rcases H g o with q|q
  ·exact h.ng g q
  ·have:=h.dm.env.base
   omega
def NewA (w:World) (Y Y1:Yw):Prop:=Y1.A=Y.A\/∀a,Y1.A.a=some a->(w:Nat)<=a.block
theorem NewA.trans (h:NewA w Y Y1) (k:NewA w1 Y1 Y2) (o:(w:Nat)<=(w1:Nat)):NewA w Y Y2:=by
 rcases k with k|k
 ·rcases h with h|h
  ·exact .inl (k.trans h)
  ·exact .inr (by rw[k];exact h)
 ·exact .inr fun a z=>g_ o (k a z)
def fj1 (X:Dw) (Y:Yw) (w w1:World) (S1:Sd) (V1:Sv):Prop:=∃X1 Y1,X1.d=X.d/\Y1.s=Y.s/\SvAt w1 X1 S1 Y1 V1/\Chg (XY X Y) w w1/\(∀g∈XY X1 Y1,g∈XY X Y\/(w:Nat)<=g)/\NewA w Y Y1
def az1 (X:Dw) (Y:Yw) (w:World) (R:Sd×Sv×Nat) (e:Ending) (w1:World):Prop:=e=.returned (.int .i64 R.2.2)/\fj1 X Y w w1 R.1 R.2.1
theorem fj1.refl (h:SvAt w X S Y V):fj1 X Y w w S V:=⟨X,Y,rfl,rfl,h,Chg.refl _ _,fun _ o=>.inl o,.inl rfl⟩
theorem fj1.same (h:SvAt w X S Y V) (o:Below w w w1):fj1 X Y w w1 S V:=⟨X,Y,rfl,rfl,h.below o,Chg.of_below o _,fun _ z=>.inl z,.inl rfl⟩
theorem fj1.c (h:fj1 X Y w w1 S V):Chg (XY X Y) w w1:=let ⟨_,_,_,_,_,c,_⟩:=h;c
theorem mz3 (h:SvAt w X S Y V) (A:Option Addr) (n c:Nat) (l:List It) (hn:n<=100000) (hr:Row w w A n 5 (itc l)) (hA:∀a,A=some a->a.block∉XY X Y) (e9:∀x∈l,x.fit) (i7:Stt V.st) (k5:V.st.length<=2000) (i8:V.sz<=1000000000000) (i9:V.ct<=1000000000) (i':V.mem.length<=400000) (j0:V.nm.length<=1000):
  Calls prog 66 #[Y.s,.slice A n c] w (az1 X Y w (St.apply S V l)):=by
 have I:=hr.yw;obtain⟨R,o⟩:=n_ (St.apply S V l);have e':=o;unfold St.apply at o;rw[<-e'];clear e';have E:=h.lt;have d6:=h.box.cell 10;have c5:=h.box.cell 5;simp only[Yw.cells,gE0,gE1]at d6 c5;have U:=wj1 A n c l w o_ hr;obtain⟨ab,H⟩:=n_ (l.all It.ok);have HH:=H_ h;have k7:=H_ I;have HX:=H_ E;have d0:=H_ hr
 cases ho:V.only with
 |true=>
  rw[if_pos ho]at o;rw[ho]at d6;have HZ:Hid (az1 X Y w R (.returned (.int .i64 14)) w):=H_ (by rw[o];exact⟨rfl,fj1.refl h⟩);clear o ho h hr E U H I;go_enter func66,ntmps66;go_wp2;go_ret;exact HZ
 |false=>
 rw[if_neg (by simp[ho])]at o;rw[ho]at d6
 by_cases h0:n=0
 ·have a1:l=[]:=ae_.1 o_
  rw[if_pos (.inl a1)]at o;have HZ:Hid (az1 X Y w R (.returned (.int .i64 1)) w):=H_ (by rw[o];exact⟨rfl,fj1.refl h⟩);subst h0;clear o ho h hr E U H I a1;go_enter func66,ntmps66;go_wp2;go_ret;exact HZ
 have e0:((n:Int)==0)=false:=by simp;omega
 have a1:l≠[]:=fun e=>by rw[e]at I;simp at I;omega
 rw[<-H]at U;have b6:=H_ U
 cases ab with
 |false=>
  rw[if_pos (.inr H.symm)]at o;have HZ:Hid (∀w',Below w w w'->az1 X Y w R (.returned (.int .i64 1)) w'):=H_ (fun w' hb=>by rw[o];exact⟨rfl,fj1.same h hb⟩);clear o ho h hr E U H I a1;go_enter func66,ntmps66;go_wp2_with fail
  refine m_ b6 ?_
  rintro e w2 ⟨rfl,z⟩;have HY:=H_ (HZ.out _ z);clear z HZ;go_wp2;go_ret;exact HY
 |true=>
 rw[if_neg (by intro q;rcases q with q|q;exact a1 q;rw[<-H]at q;cases q)]at o
 by_cases h1:1000 < n
 ·rw[if_pos o_]at o
  have HZ:Hid (∀w',Below w w w'->az1 X Y w R (.returned (.int .i64 2)) w'):=H_ (fun w' hb=>by rw[o];exact⟨rfl,fj1.same h hb⟩);have e1:((1000:Int) < (n:Int))=True:=eq_true o_;clear o ho h hr E U H I a1;go_enter func66,ntmps66;go_wp2_with fail
  refine m_ b6 ?_
  rintro e w2 ⟨rfl,z⟩;have HY:=H_ (HZ.out _ z);clear z HZ;go_wp2;go_ret;exact HY
 rw[if_neg o_]at o;have e1:((1000:Int) < (n:Int))=False:=eq_false o_;have b7:=h.st.now;have d7:=fun(W:World) (hb:Below w w W)=>uy1 Y.A.a Y.A.n Y.A.c V.st A n c l W (by have:=h.alen;omega) b7.nc b7.cm i7 ((b7.row.below hb).up hb.size) ((hr.below hb).up hb.size);have f0:∀W,Below w w W->W.cell? (Y.s,5)=some (.slice Y.A.a Y.A.n Y.A.c):=fun W hb=>(hb.cell (p:=⟨Y.s,5,none⟩) h.box.lt).trans c5;obtain⟨J,hJ⟩:=n_ (joins V.st l);rw[<-hJ]at o d7;have f1:=H_ d7;have f2:=H_ f0;have HR:=H_ o;have HJ:=H_ hJ;have f3:=H_ H;have l1:=H_ h.ylt;clear o ho h hr E U H I a1 b7 d7 f0 hJ c5;go_enter func66,ntmps66;go_wp2_with fail
 refine m_ b6 ?_
 rintro e w2 ⟨rfl,z⟩;have c5:=f2.out w2 z;go_wp2_with fail
 with_reducible refine(f1.out w2 z).mono ?_
 rintro e w3 ⟨A3,k3,rfl,f4,a4,d8⟩;have f5:=(HH.below z).below d8;have d1:=az z d8;have d2:uw (XY X Y) w3 fun W=>Its 0 W A3 k3 k3 J:=fun W cW=>⟨(nz cW a4.row l_ (fun j _ a ha hm=>by
  have:=a4.low a ha;have:=HX.out _ hm;have:=z.size;omega)).up cW.size,a4.nc,a4.cm,fun _ _=>A_ _⟩
 have j5:Hid (∀a,A3=some a->(w:Nat)<=a.block):=H_ fun a ha=>g_ z.size (a4.low a ha);have f7:=H_ f4;have a2:=H_ f5;have j6:=H_ d2;have HB:=H_ d1;clear f4 f5 d2 a4 d8 z d1 c5 f1 b6 f2;have o:=HR.out
 by_cases h2:1500 < k3
 ·rw[if_pos (by rw[<-f7.out];exact h2)]at o
  have e2:((1500:Int) < (k3:Int))=True:=eq_true o_;have HZ:Hid (az1 X Y w R (.returned (.int .i64 2)) w3):=H_ (by rw[o];exact⟨rfl,fj1.same HH.out HB⟩);clear o h2;go_wp2;go_ret;exact HZ
 rw[if_neg (by rw[<-f7.out];exact h2)]at o;have e2:((1500:Int) < (k3:Int))=False:=eq_false o_;have c2:=a2.box.cell 2;simp only[Yw.cells,gE0,gE1]at c2;have a':=gj5 X S Y.g V.nm V.sz V.ct A n c l w3 j0 a2.dm a2.log (a2.apart.x _ (Yw.aj.2 (.inr (.inr (.inl rfl))))) (a2.ng _ (Yw.aj.2 (.inr (.inr (.inl rfl))))) i8 i9 o_ o_ ((d0.below HB).up HB.size) (fun x hx=>⟨by have:=f3.out;rw[eq_comm,Y_]at this;exact this x hx,e9 x hx⟩);obtain⟨a,ha⟩:=n_ (S.append V.nm (Lg.batch l));rw[<-ha]at a' o;obtain⟨S4,d9⟩:=a;unfold xk3 at a';simp only at a' o;have d':=H_ a';have f8:=H_ o;clear a' o ha h2 HR;go_wp2_with fail
 refine m_ d' ?_
 rintro e w4 ⟨rfl,X4,e4,b9,b',c9,a5⟩
 by_cases h4:d9=0
 ·subst h4
  rw[if_pos rfl]at a5;obtain⟨O,C,Q⟩:=a2.put e4 b9 b' c9 a5;have c3:=O.box.cell 3;simp only[Yw.cells,gE0,gE1]at c3;have f9:=(nz C ((d0.below HB).up HB.size) l_ (fun j _ a ha=>hA a ha)).up C.size;have e5:∀g∈Y.mm::skF Y.L Y.ns,g∈Y.foot:=fun g hg=>Yw.aj.2 (by
   rcases h_.1 hg with rfl|hg
   ·exact .inr (.inr (.inr (.inl rfl)))
   ·exact .inr (.inr (.inr (.inr hg))))
  have g4:=dw2 O.mem A n c l o_ (by rw[O.its];exact i') f9 (fun a ha=>⟨fun hm=>hA a ha (k_ _ (e5 _ (by rw[hm];exact p_))),fun hm=>hA a ha (k_ _ (e5 _ (f_ _ hm)))⟩) f3.symm;have g8:=H_ O;have g':=H_ g4;have a7:=H_ (d_ C Q);have j8:=H_ e4;clear O g4 f9 C Q b' c9 b9 a5 e4 e5 d';go_wp2_with fail
  refine m_ g' ?_
  rintro e w5 ⟨e6,rfl,h6,h7,h8,h9⟩;obtain⟨h',b0,b1⟩:=g8.mput h6 h8 h9;have d3:=(j6.step a7.1 a7.2).step b0 b1;have d4:=yx2 h' A3 k3 k3 J d3;have hc:=(((Chg.of_below HB.out (XY X Y)).trans a7.1 (fun g hg=>.inl hg)).trans b0 (fun g hg=>(a7.2 g hg).imp id (g_ HB.size)));have i0:∀g∈XY X4 { Y with ns:=e6 },g∈XY X Y\/(w:Nat)<=g:=fun g hg=>by
   rcases b1 g hg with q|q
   ·exact(a7.2 g q).imp id (g_ HB.size)
   ·exact .inr (g_ (g_ HB.size a7.1.size) q)
  have d5:=H_ d4;have HC:=H_ hc;have i1:=H_ i0;have j9:=H_ (show its e6=l.foldl wput V.mem by rw[h7,g8.its]);clear h' d3 d4 hc i0 h6 h7 h8 h9 b0 b1 g' c3 c2;go_wp2_with fail
  refine m_ d5 ?_
  rintro e w6 ⟨rfl,i2,i3⟩;have hz:az1 X Y w R (.returned (.int .i64 0)) w6:=by
   rw[f8.out,if_neg s_];refine⟨rfl,X4,{ Y with ns:=e6,A:=⟨A3,k3,k3⟩ },j8,rfl,?_,HC.trans i3 i1,i1,.inr j5⟩;rw[<-j9.out];exact i2
  have HZ:=H_ hz;clear hz i2 i3 d5;go_wp2;go_ret;exact HZ
 ·have e3:((d9:Int)==0)=false:=by simp;omega
  rw[if_neg h4]at a5;obtain⟨O,C,Q⟩:=a2.put e4 b9 b' c9 a5;have hz:az1 X Y w R (.returned (.int .i64 d9)) w4:=by
   rw[f8.out,if_pos h4];exact⟨rfl,X4,Y,e4,rfl,O,(Chg.of_below HB.out (XY X Y)).trans C (fun g hg=>.inl hg),fun g hg=>(Q g hg).imp id (g_ HB.size),.inl rfl⟩
  have HZ:=H_ hz;clear hz O C Q b' c9 b9 a5 e4 d' h4;go_wp2;go_ret;exact HZ
end
theorem vk3:(prog.info? 34).map (fun i=>(i.zero,i.size,i.bytes))=some (some (.slice none 0 0),1,24):=by kernel_rfl
theorem kq4 (A:Option Addr) (n c:Nat) (vs:List Value) (w:World) (hn:n<=1000000) (h0:A=none->n=0/\c=0) (h1:∀u∈vs,u.oneCell'=true) (I:Row w w A n 1 vs):
  Calls prog 94 #[.slice A n c] w fun e w'=>∃A' c',e=.returned (.slice A' n c')/\w'.ownsRow w 34 1 (.slice A' n c') n vs/\Below w w w':=by
 obtain⟨i0,J,O,Q,U⟩:=info_parts vk3;have HR:=H_ I;have H1:=H_ h1;have o:=I.len;clear I h1
 cases A with
 |none=>
  obtain⟨rfl,rfl⟩:=h0 rfl;have hq:vs=[]:=ae_.1 o_;subst hq;clear HR o;have C:∀W,(binOp .eql 108 (.slice none 0 0) (.slice none 0 0)).run prog W=.ok (.bool true) W:=fun W=>by kernel_rfl
  go_enter func94,ntmps94;go_wp2;go_ret;exact⟨none,0,rfl,G_ _ _ _ _,Below.refl _ _⟩
 |some p=>
  clear o h0;go_enter func94,ntmps94;have E:(w.alloc (.cells #[] 34)).ownsRow w 34 1 (.slice (some (w:Nat)) 0 0) 0 []:=⟨rfl,.inr ⟨(w:Nat),0,#[],rfl,B_ _,heap_alloc_new w _,B_ _,by decide,rfl,rfl⟩⟩;have z:=b_ w (.cells #[] 34);have HO:=H_ E;have HB:=H_ z;have H:=H_ (HR.below z);clear E z;have C:∀W,(binOp .eql 108 (.slice (some p) n c) (.slice none 0 0)).run prog W=.ok (.bool false) W:=fun W=>Lib.run_eql_slice_some_nil (e:=34) W _ _ _ (by kernel_rfl);go_wp2_with (at_builtin;refine iq ?_);refine gz (iy rfl (.tmp 5) (.tmp 6) _ rfl (w:Nat) 34 i0 _ 1 24 underlying108 J O Q U rfl o_ w HB.out HB.size _ 0 [] rfl HO.out w _ n c vs rfl H.out H1.out n _ (am_ n) (D_ _) (by unfold maxLen;omega) o_ ?_);intro A3 c3 w3 z1 z2 z3 z4 z5;have HF:=H_ z1;clear z1 z3 HO HB H;go_wp2;go_ret;exact⟨A3,c3,rfl,HF,z2⟩
theorem ky2 (b:Addr):b.add (0 *5)=b:=by cases b;simp[Addr.add]
def RIn (B:Nat) (w:World) (vs:List Value) (ls:List (List It)):Prop:=ls.length=vs.length/\∀i (h:i < ls.length),∃A k c,vs[i]?=some (.slice A k c)/\k<=c/\c<=maxLen/\Row B w A k 5 (itc ls[i])
def vj5:Option Value->Nat
 |some (.slice _ k _)=>k
 |_=>0
def leftOf (A:Option Addr) (n:Nat) (W:World):Nat:=match A with
 |none=>0
 |some a=>((List.range n).map fun i=>vj5 (W.cell? (a.add i))).sum
theorem ow1 {B B' n:Nat} {w W:World} {A:Option Addr} {vs:List Value} {ls:List (List It)} (h:Row B W A n 1 vs) (hi:RIn B' w vs ls):leftOf A n W=Mg.tot ls:=by
 have O:vs.length=n:=by have:=h.len;omega
 have H:=hi.1
 cases A with
 |none=>
  have z:n=0:=by
   rcases an_ n with z|z
   ·exact z
   ·obtain⟨a,v,e,_⟩:=h.at1 z
    cases e
  have:ls=[]:=ae_.1 o_;subst this;rfl
 |some a=>
  have e:(List.range n).map (fun i=>vj5 (W.cell? (a.add i)))=ls.map List.length:=by
   refine cz_ (by simp;omega) fun i h1 h2=>?_;simp only[cy_,List.getElem_range];have E:i < n:=by simpa using h1
   obtain⟨Q,v,e,_,C,I⟩:=h.at1 E;injection e with e;subst e;obtain⟨A,k,c,J,_,_,o⟩:=hi.2 i o_;rw[J]at C;injection C with C;subst C;rw[I];exact o.yw.symm
  show ((List.range n).map fun i=>vj5 (W.cell? (a.add i))).sum=_
  rw[e];rfl
theorem RIn.set {B:Nat} {w:World} {vs:List Value} {ls:List (List It)} (h:RIn B w vs ls) {j k c:Nat} {A:Option Addr} {r:List It} (o:k<=c) (z:c<=maxLen) (C:Row B w A k 5 (itc r)):RIn B w (vs.set j (.slice A k c)) (ls.set j r):=by
 refine⟨by simp[h.1],fun i hi=>?_⟩;simp only[av_]at hi;have Q:=h.1
 by_cases e:j=i
 ·subst e
  refine⟨A,k,c,?_,o,z,?_⟩
  ·rw[bw_ o_]
  ·rw[List.getElem_set_self];exact C
 ·obtain⟨A',E,c',H,I,J,O⟩:=h.2 i hi
  refine⟨A',E,c',?_,I,J,?_⟩
  ·rw[a3_ e];exact H
  ·rw[List.getElem_set_ne e];exact O
structure MI (w wr:World) (A:Option Addr) (n c:Nat) (vs:List Value) (ls:List (List It)) (A2:Option Addr) (q c2:Nat) (out:List It):Prop where
 own:wr.ownsRow w 34 1 (.slice A n c) n vs
 inn:RIn w w vs ls
 ow2:wr.ownsRow w 33 5 (.slice A2 q c2) q (itc out)
 bl:Below w w wr
 len:q=out.length
theorem MI.ln {w wr:World} {A A2:Option Addr} {n c q c2:Nat} {vs:List Value} {ls:List (List It)} {out:List It} (h:MI w wr A n c vs ls A2 q c2 out):ls.length=n:=by
 have:=h.own.1;have:=h.inn.1;omega
theorem MI.row {w wr:World} {A A2:Option Addr} {n c q c2:Nat} {vs:List Value} {ls:List (List It)} {out:List It} (h:MI w wr A n c vs ls A2 q c2 out) {i:Nat} (hi:i < n):
  ∃g B k d,A=some ⟨g,0,none⟩/\(w:Nat)<=g/\g < (wr:Nat)/\wr.cell? ⟨g,i,none⟩=some (.slice B k d)/\k<=d/\d<=maxLen/\k=(ls.getD i []).length/\Row w w B k 5 (itc (ls.getD i []))/\i < c/\c<=maxLen:=by
 cases A with
 |none=>have:=(uy3 h.own).1;omega
 |some a=>
  obtain⟨g,cur,e,I,o,J,O,z,C⟩:=jj1 h.own;subst e;have Q:=h.ln;obtain⟨B,k,d,U,e2,e3,E⟩:=h.inn.2 i o_;have H:ls.getD i []=ls[i]'o_:=by rw[t_,j_ o_];rfl
  refine⟨g,B,k,d,rfl,I,o.lt,?_,e2,e3,?_,?_,o_,z⟩
  ·rw[o.cell,<-U,<-C,aY_,if_pos o_]
  ·rw[H];exact E.yw.symm
  ·rw[H];exact E
theorem kw2 {w:World} {g:Nat} {xs z:List Value} (h:BoxO w 34 g xs) (k:BoxO w 33 g z):False:=by
 have C:w.heap[g]?=some (.cells xs.toArray 34 (0,0)):=h;have o:w.heap[g]?=some (.cells z.toArray 33 (0,0)):=k;rw[C]at o;injection o with o;injection o with _ o _;exact absurd o (by decide)
theorem MI.apart {w wr:World} {A2:Option Addr} {n c q c2 g:Nat} {vs:List Value} {ls:List (List It)} {out:List It} (h:MI w wr (some ⟨g,0,none⟩) n c vs ls A2 q c2 out):∀z,(Value.slice A2 q c2).ownBlock=some z->z≠g:=by
 intro z o e;subst e;obtain⟨g1,cur,C,_,E,_⟩:=jj1 h.own;injection C with C;subst C
 cases A2 with
 |none=>cases o
 |some a=>
  obtain⟨g2,I,J,_,H,_⟩:=jj1 h.ow2;subst J;injection o with o;subst o;exact kw2 E H
theorem MI.drewN {w U:World} {A A2:Option Addr} {n c q c2:Nat} {vs:List Value} {ls:List (List It)} {out:List It} (h:MI w U A n c vs ls A2 q c2 out) (k:Nat):MI w (U.drewN k) A n c vs ls A2 q c2 out:=⟨own_below h.own (below_drewN b0_ k),h.inn,own_below h.ow2 (below_drewN b0_ k),below_drewN h.bl k,h.len⟩
theorem MI.go {w U z:World} {A A2:Option Addr} {n c q c2:Nat} {vs:List Value} {ls:List (List It)} {out:List It} (h:MI w U A n c vs ls A2 q c2 out) (o:Below U U z):MI w z A n c vs ls A2 q c2 out:=⟨own_below h.own o,h.inn,own_below h.ow2 o,az h.bl o,h.len⟩
theorem MI.store {w wr W:World} {A2 o:Option Addr} {n c q c2 g j k d:Nat} {vs:List Value} {ls:List (List It)} {out r:List It} (h:MI w wr (some ⟨g,0,none⟩) n c vs ls A2 q c2 out) (z:Below wr wr W)
  (hk:k<=d) (hd:d<=maxLen) (hr:Row w w o k 5 (itc r)):MI w (W.setCell (g,j) (.slice o k d)) (some ⟨g,0,none⟩) n c (vs.set j (.slice o k d)) (ls.set j r) A2 q c2 out:=by
 obtain⟨g1,cur,C,U,E,H,I,J,O⟩:=jj1 (own_below h.own z);injection C with C;subst C;have hs:=E.store j (.slice o k d);have ho:=oj3 U hs (n:=n) (c:=c) (size:=1) (by rw[av_];exact H) I J;rw[List.take_set,O]at ho;have ha:=h.apart;refine⟨ho,h.inn.set hk hd hr,jv (own_below h.ow2 z) (tq W ⟨g,j,none⟩ (.slice o k d)) (fun g' Q hm=>ha g' Q (c_.1 hm)),?_,h.len⟩;exact(az h.bl z).setCell U _
theorem MI.more {w U E W:World} {A2 H:Option Addr} {n c q c2 c3 g:Nat} {vs:List Value} {ls:List (List It)} {out o:List It} (h:MI w U (some ⟨g,0,none⟩) n c vs ls A2 q c2 out) (J:Below U U E)
  (O:E.grownBy W (Value.slice A2 q c2).ownBlock) (Q:W.ownsRow w 33 5 (.slice H (q+1) c3) (q+1) (itc o)) (z:Below w w W) (hl:q+1=o.length):MI w W (some ⟨g,0,none⟩) n c vs ls H (q+1) c3 o:=by
 have ha:=h.apart;refine⟨jv (own_below h.own J) (Chg.qy (F:=(Value.slice A2 q c2).ownBlock.toList) O (fun b z=>by rw[z];simp)) (fun I C hm=>?_),h.inn,Q,z,hl⟩;have e:I=g:=by injection C with e;exact e.symm
 exact ha I (by simpa using hm) e
theorem MI.over {w U:World} {n c q c2 g g2:Nat} {vs:List Value} {ls:List (List It)} {out:List It} (h:MI w U (some ⟨g,0,none⟩) n c vs ls (some ⟨g2,0,none⟩) (q+1) c2 out) (x:It):
  MI w (U.setCells g2 (q *5) x.cells) (some ⟨g,0,none⟩) n c vs ls (some ⟨g2,0,none⟩) (q+1) c2 (out.dropLast++[x]):=by
 have o:=h.len;have ha:=h.apart g2 rfl;obtain⟨g1,cur,E,z,H,C,I,J,O⟩:=jj1 h.ow2;injection E with E;subst E;have hs:=BoxO.stores x.cells (q *5) U cur H (by rw[x.dw,C];omega);have hc:Chg [g2] U (U.setCells g2 (q *5) x.cells):=(((((Chg.refl [g2] U).setCell _ (.inl s_)).setCell _ (.inl s_)).setCell _ (.inl s_)).setCell _ (.inl s_)).setCell _ (.inl s_);have ho:=oj3 z hs (n:=q+1) (c:=c2) (size:=5) (by simp only[e_,y_,I_,x.dw,C];omega) I J;have e2:(cur.take (q *5)++(x.cells++cur.drop (q *5+x.cells.length))).take ((q+1)*5)=itc (out.dropLast++[x]):=by
  have e3:cur.take (q *5)=itc out.dropLast:=by
   rw[List.dropLast_eq_take,<-o,ex1,<-O,aH_,show min ((q+1 - 1)*5) ((q+1)*5)=q *5 by omega]
  have e4:(itc out.dropLast).length=q *5:=by rw[iw,ce_,<-o];rfl
  rw[e3,List.take_append,e4,i_ (by rw[e4];omega),show (q+1)*5 - q *5=5 by omega,vz]
  congr 1
 rw[e2]at ho;refine⟨jv h.own hc (fun g' Q hm=>?_),h.inn,ho,?_,by rw[e_,ce_,<-o];rfl⟩
 ·have e:g=g':=by injection Q
  exact ha ((c_.1 hm).symm.trans e.symm)
 ·exact((((h.bl.setCell z _).setCell z _).setCell z _).setCell z _).setCell z _
theorem kz40 {P S a oi v} (h:Hv P S a oi v:=by intro w z;(obtain⟨z1,z2,⟨x0,x1,x2,x3,x4⟩,y0,y1,y2,y3,y4⟩:=KC.out w z);go_simp;try (with_reducible rfl)):Hv P S a oi v:=h
theorem kz41 {P S a oi v} (h:Hv P S a oi v:=by intro w z;(obtain⟨⟨x0,x1,x2,x3,x4⟩,y0,y1,y2,y3,y4⟩:=KC.out w z);go_simp;try (with_reducible rfl)):Hv P S a oi v:=h
theorem gx3 (A:Option Addr) (n c:Nat) (ls:List (List It)) (wi:World) (hn:n<=1000000) (k1:Mg.tot ls<=1000000) (h0:A=none->n=0/\c=0) (hr:nj1 wi wi A n ls):
  Calls prog 42 #[.slice A n c] wi (sq1 wi (Mg.rows ls)):=by
 obtain⟨i0,k4,k5,k6,k7⟩:=info_parts wz;obtain⟨vs,E,q6,i'⟩:=hr;have n8:=E.len;have h1:∀u∈vs,u.oneCell'=true:=by
  intro u hu;obtain⟨i,hi,rfl⟩:=bJ_.1 hu;obtain⟨B,k,d,e,_⟩:=i' i o_;rw[j_ hi]at e;injection e with e;rw[e];rfl
 have h9:RIn wi wi vs ls:=⟨o_,i'⟩;have HI:=H_ h9;have HC:=H_ (kq4 A n c vs wi hn h0 h1 E);clear i' h1 E h0 h9 n8;go_enter func42,ntmps42;go_wp2_with fail;refine HC.mono ?_;rintro e w1 ⟨A',c',rfl,ho,hb⟩;have k8:=H_ (show MI wi w1 A' n c' vs ls none 0 0 []/\Mg.run (Mg.tot ls) ls []=Mg.rows ls/\([]:List It).length+Mg.tot ls<=1000000 from ⟨⟨ho,HI,G_ _ _ _ _,hb,rfl⟩,rfl,by simpa using k1⟩);clear ho hb HI HC;go_wp2
 go_loopw [3] (fun o wr=>∃C out j2 A2 q c2,o=.slice A2 q c2/\Hid (MI wi wr A' n c' j2 C A2 q c2 out/\Mg.run (Mg.tot C) C out=Mg.rows ls/\out.length+Mg.tot C<=1000000)) (fun _ wr=>leftOf A' n wr)
 case atStart=>exact⟨ls,[],vs,none,0,0,rfl,k8⟩
 case round=>
  obtain⟨C,out,j2,A2,q,c2,rfl,HQ⟩:=hrel;clear k8;go_wp2
  go_loopw [5,14] (fun a i wq=>∃k:Nat,k<=n/\a=.int .i64 (Mg.at_ (Mg.sel C k))/\i=.int .i64 k/\Below wr wr wq) (fun _ i _=>n - (intOf i).toNat)
  case atStart=>exact⟨0,o_,rfl,rfl,Below.refl _ _⟩
  case round=>
   obtain⟨k,hk,rfl,rfl,a1⟩:=hrel
   by_cases n9:k < n
   ·obtain⟨g,B,kk,d,eA,n',d1,Q,o0,o1,b6,E,o2,o3⟩:=HQ.1.row n9
    subst eA;have j3:=(a1.cell (p:=⟨g,k,none⟩) d1).trans Q;have o4:(k:Int) < (n:Int):=o_
    cases e:C.getD k [] with
    |nil=>
     rw[e]at b6;simp only[R_]at b6;subst b6;have hs:Mg.sel C (k+1)=Mg.sel C k:=by
      show (if Mg.hd C (Mg.sel C k) (C.getD k [])=true then some k else Mg.sel C k)=_
      rw[e];rfl
     have HS:=H_ hs;clear E hs e Q HQ;go_wp2_with fail
     go_quiet (fail)
     go_wp2;go_roundw
     case rel=>exact⟨k+1,o_,by rw[HS.out],by go_num,below_drewN a1 _⟩
     case measure=>simp[intOf];omega
    |cons x r=>
     rw[e]at b6 E;simp only[r_]at b6;have o5:(0:Int) < (kk:Int):=o_
     have j4:0 < kk:=o_
     obtain⟨b,hl,rfl,e9,a9⟩:=E.it (k:=0) j4;simp only[a5_]at a9
     cases es:Mg.sel C k with
     |none=>
      have hs:Mg.sel C (k+1)=some k:=by
       show (if Mg.hd C (Mg.sel C k) (C.getD k [])=true then some k else Mg.sel C k)=_
       rw[e,es];rfl
      have HS:=H_ hs;clear E hs e Q HQ a9 es;unfold Mg.at_;go_wp2_with fail
      go_quiet (fail)
      go_wp2;go_roundw
      case rel=>exact⟨k+1,o_,(by rw[HS.out]),by go_num,below_drewN a1 _⟩
      case measure=>simp[intOf];omega
     |some j=>
      obtain⟨k9,y,r2,ey⟩:=Mg.vw3 es;obtain⟨g',B2,k2,d2,eA,_,o9,d0,q9,q',h',b8,r0,_⟩:=HQ.1.row (i:=j) o_;injection eA with eA;injection eA with eA;subst eA;rw[ey]at h' b8;simp only[r_]at h';have s5:(0:Int) < (k2:Int):=o_
      have o':0 < k2:=o_
      obtain⟨b2,p0,rfl,i1,b7⟩:=b8.it (k:=0) o';simp only[a5_]at b7;have hs:Mg.sel C (k+1)=if x.less y=true then some k else some j:=by
       show (if Mg.hd C (Mg.sel C k) (C.getD k [])=true then some k else Mg.sel C k)=_
       rw[e,es];show (if (match C.getD j [] with|[]=>false|y::_=>x.less y)=true then _ else _)=_
       rw[ey]
      have e':=fun W=>gx1 x y W;obtain⟨bb,k'⟩:=n_ (x.less y);rw[<-k']at hs e';unfold It.val at e';have p1:(j:Int) < (n:Int):=o_
      have p2:((j:Int) < 0)=False:=eq_false o_;have b9:=HQ.1.bl;have d3:∀w',Below wr wr w'->(w'.cell? (g,k)=some (.slice (some b) kk d))/\(w'.cell? ⟨g,j,none⟩=some (.slice (some b2) k2 d2))/\(w'.cell? (b.add (0 *5))=some (.int .i64 x.s)/\w'.cell? ⟨(b.add (0 *5)).block,(b.add (0 *5)).off+1,none⟩=some (.int .i64 x.k)/\w'.cell? ⟨(b.add (0 *5)).block,(b.add (0 *5)).off+2,none⟩=some (.int .u64 x.t)/\w'.cell? ⟨(b.add (0 *5)).block,(b.add (0 *5)).off+3,none⟩=some (.int .u64 x.v)/\w'.cell? ⟨(b.add (0 *5)).block,(b.add (0 *5)).off+4,none⟩=some (.int .i64 x.x))/\w'.cell? (b2.add (0 *5))=some (.int .i64 y.s)/\w'.cell? ⟨(b2.add (0 *5)).block,(b2.add (0 *5)).off+1,none⟩=some (.int .i64 y.k)/\w'.cell? ⟨(b2.add (0 *5)).block,(b2.add (0 *5)).off+2,none⟩=some (.int .u64 y.t)/\w'.cell? ⟨(b2.add (0 *5)).block,(b2.add (0 *5)).off+3,none⟩=some (.int .u64 y.v)/\w'.cell? ⟨(b2.add (0 *5)).block,(b2.add (0 *5)).off+4,none⟩=some (.int .i64 y.x):=fun w' hb=>by
       have f5:=az a1 hb;have h1:=a9.below (B:=(wi:Nat)) (w':=w') e9 (az b9 f5);have h2:=b7.below (B:=(wi:Nat)) (w':=w') i1 (az b9 f5);exact⟨(f5.cell (p:=⟨g,k,none⟩) d1).trans Q,(f5.cell (p:=⟨g,j,none⟩) o9).trans d0,⟨h1.c0,h1.c1,h1.c2,h1.c3,h1.c4⟩,h2.c0,h2.c1,h2.c2,h2.c3,h2.c4⟩
      simp only[ky2]at d3;have KC:=H_ d3;have HS:=H_ hs;have l1:=H_ e';clear d3 hs e' E b8 e es ey Q d0 HQ a9 b7 k' b9 e9 i1 hl p0;unfold Mg.at_;go_wp2_with fail;refine w_h wr fun z=>?_;refine w_v 0 z ?_ (k:=kz40);go_simp;refine w_v 1 z ?_ (k:=kz40);go_simp;refine w_v 2 z ?_ (k:=kz40);go_simp;refine w_v 3 z ?_ (k:=kz40);go_simp;refine w_v 4 z ?_ (k:=kz40);go_simp;refine w_v 5 z ?_ (k:=kz40);go_simp;refine w_v 6 z ?_ (k:=kz40);go_simp;refine w_v 7 z ?_ (k:=kz40);go_simp;refine w_v 8 z ?_ (k:=kz40);go_simp;refine w_v 9 z ?_ (k:=kz40);go_simp;refine w_v 10 z ?_ (k:=kz40);go_simp;refine w_v 11 z ?_ (k:=kz40);go_simp;refine w_v 12 z ?_ (k:=kz40);go_simp;refine w_v 13 z ?_ (k:=kz40);go_simp;refine w_v 14 z ?_ (k:=kz40);go_simp;refine w_v 15 z ?_ (k:=kz40);go_simp;refine w_r 16 fun K hK=>?_;go_simp
      with_reducible refine(l1.out _).mono ?_
      rintro e w3 ⟨rfl,j5⟩;go_simp;refine hK.out _ _ (z.trans (j5.mono z.size)) ?_;clear z hK K;intro z;go_simp;refine w_v 17 z ?_ (k:=kz40);go_simp;refine w_v 18 z ?_ (k:=kz40);go_simp;refine w_d ?_;have l2:=az a1 z;clear z KC l1
      cases bb with
      |true=>
       go_wp2;go_roundw
       case rel=>exact⟨k+1,o_,(by rw[HS.out];rfl),by go_num,l2⟩
       case measure=>simp[intOf];omega
      |false=>
       go_wp2;go_roundw
       case rel=>exact⟨k+1,o_,(by rw[HS.out];rfl),by go_num,l2⟩
       case measure=>simp[intOf];omega
   ·obtain rfl:k=n:=o_
    have o4:((k:Int) < (k:Int))=False:=eq_false o_;have l3:=HQ.1.ln
    cases es:Mg.sel C k with
    |none=>
     have hR:=HQ.2.1;rw[Mg.kj5 (by rw[l3];exact es)]at hR;obtain⟨A3,c3,hv,l5,p3,i3⟩:=ay HQ.1.ow2;injection hv with e1 e2 e3;subst e1 e3;have i4:Its wi wr A2 q q (Mg.rows ls):=⟨by rw[<-hR];exact Row.below (Row.own HQ.1.ow2) a1|>.up a1.size,B_ _,o_,fun p hp=>(i3 p hp).1⟩;have p4:=H_ (d_ (show q=(Mg.rows ls).length by rw[<-hR];exact HQ.1.len) (d_ i4 (az HQ.1.bl a1)));have HK:=H_ (jv1 A2 q c2 wr l5);clear i4 hR l5 p3 i3 HQ es;unfold Mg.at_;go_wp2_with fail;refine HK.mono ?_;rintro e w2 ⟨rfl,rfl⟩;go_wp2;go_ret;exact⟨A2,q,q,rfl,p4⟩
    |some j=>
     obtain⟨k9,x,r,ex⟩:=Mg.vw3 es;obtain⟨g,B,kk,d,eA,n',d1,Q,o0,o1,b6,E,o2,o3⟩:=HQ.1.row k9;subst eA;rw[ex]at b6 E;simp only[r_]at b6;have o5:(0:Int) < (kk:Int):=o_
     have j4:0 < kk:=o_
     obtain⟨b,hl,rfl,e9,a9⟩:=E.it (k:=0) j4;simp only[a5_]at a9;have b7:=a9.below (B:=(wi:Nat)) e9 (az HQ.1.bl a1);obtain⟨x0,x1,x2,x3,x4⟩:=b7;simp only[ky2]at x0 x1 x2 x3 x4;have j3:=(a1.cell (p:=⟨g,j,none⟩) d1).trans Q;have f6:=b_ wr (.cells #[x.s,x.k,[x.t],[x.v],x.x] 33);have a4:BoxO (wr.alloc (.cells #[x.s,x.k,[x.t],[x.v],x.x] 33)) 33 (wr:Nat) x.cells:=BoxO.new wr #[x.s,x.k,[x.t],[x.v],x.x] 33;have p5:=(f6.cell (p:=⟨g,j,none⟩) (L_ d1 a1.size)).trans j3;have p6:(wr.alloc (.cells #[x.s,x.k,[x.t],[x.v],x.x] 33)).frozen? ⟨g,j,none⟩=false:=by
      obtain⟨g',cur,e,_,a4,_⟩:=jj1 (own_below (own_below HQ.1.own a1) f6);injection e with e;subst e;exact a4.free j
     have p1:(j:Int) < (k:Int):=o_
     have p2:((j:Int) < 0)=False:=eq_false o_;have t0:(1:Int)<=(kk:Int):=o_
     have hcut:∀BB:Option Addr,(1 < kk->BB=(some b).map (·.add (1 *5)))->Row wi wi BB r.length 5 (itc r):=fun BB h=>by
      have h2:=E.fz6 (k:=1) (m:=kk) o_ l_ h;have e5:((x::r).drop 1).take (kk - 1)=r:=by rw[List.drop_one,List.tail_cons,i_ o_]
      rw[e5]at h2
      rwa [show kk - 1=r.length by omega]at h2
     have hN:=fun(BB:Option Addr) (d':Nat) (h1:r.length<=d') (h2:d'<=maxLen) (h3:Row wi wi BB r.length 5 (itc r))=>MI.store (j:=j) HQ.1 (az a1 f6) h1 h2 h3;have l7:=fun(h:d=1)=>hN (some b) 0 o_ o_ (hcut _ (fun h=>o_));have l8:=hN (some ⟨b.block,b.off+5,none⟩) (d - 1) o_ o_ (hcut _ (fun _=>by rw[aR_,show 1 *5=0 *5+5 from rfl,uq2 b (0 *5) o_,ky2]));have i5:Mg.run (Mg.tot (C.set j r)) (C.set j r) (Mg.put out x)=Mg.rows ls:=by rw[<-Mg.ev5 (by rw[l3];exact es) ex];exact HQ.2.1
     have l9:=Mg.sv3 (ls:=C) (j:=j) o_ ex;have d6:=ow1 (Row.own HQ.1.own) HQ.1.inn;have H:=H_ (d_ i5 (d_ l9 (d_ d6 HQ.2.2)));have l':=fun v=>a4.chg (tq (wr.alloc (.cells #[x.s,x.k,[x.t],[x.v],x.x] 33)) ⟨g,j,none⟩ v) (by have:=L_ d1 a1.size;simp only[c_];omega);have m0:=H_ l7;have m1:=H_ l8;have j6:=H_ l';have r4:d=1\/¬d=1:=o_
     clear a9 hl hcut hN l7 l8 i5 l9 d6 l' f6 a4 HQ E Q es ex;unfold Mg.at_;go_wp2_with fail
     all_goals
      first
       |(have I:=m0.out (by assumption);have J:=j6.out (.slice (some b) r.length 0))
       |(have I:=m1.out;have J:=j6.out (.slice (some ⟨b.block,b.off+5,none⟩) r.length (d - 1)))
      clear m0 m1 j6;generalize World.setCell _ _ _=U at *;clear x0 x1 x2 x3 x4 j3 p5 p6;generalize (wr:Nat)=g8 at *;generalize List.set j2 _ _=t2 at *;obtain⟨t3,i6⟩:=n_ (C.set j r);rw[<-i6]at I H;clear i6
      rcases an_ q with h0|h0
      ·subst h0
       have ho:out=[]:=ae_.1 I.len.symm;have b':=H_ (show Mg.put out x=out++[x] by rw[ho];rfl)
       go_quiet (fail)
       have I:=I.drewN nq;have J:=J.drewN nq;generalize U.drewN nq=U at *;have b0:=J.cell 0;have b1:=J.cell 1;have b2:=J.cell 2;have b3:=J.cell 3;have b4:=J.cell 4;simp only[It.cells,gE0,gE1]at b0 b1 b2 b3 b4;have d7:BoxO (U.alloc (.cells #[x.s,x.k,[x.t],[x.v],x.x] 33)) 33 (U:Nat) x.cells:=BoxO.new U #[x.s,x.k,[x.t],[x.v],x.x] 33;have b5:=b_ U (.cells #[x.s,x.k,[x.t],[x.v],x.x] 33);have d8:=own_below I.ow2 b5;have c9:=az I.bl b5;have a5:=rj1 d7;have HX:=H_ (show itc out++x.cells=itc (out++[x]) by rw[vz];simp[itc]);have d9:=H_ a5;have HO:=H_ d8;have HB:=H_ c9;have HM:=H_ (d_ I b5);have p8:0+1<=1000000:=by have:=HM.1.len;have:=H.out;omega
       clear a5 d7 b5 c9 d8 I J;go_wp2_with (at_builtin;refine iq ?_);refine gz (iy rfl (.tmp 73) (.tmp 75) _ rfl (wi:Nat) 33 i0 _ 5 40 underlying34 k4 k5 k6 k7 rfl o_ wi HB.out HB.size _ (0) (itc out) rfl HO.out (U.alloc (.cells #[x.s,x.k,[x.t],[x.v],x.x] 33)).heap.size _ 1 1 x.cells rfl d9.out (fun v hv=>ax1 [x] v (by simpa [itc] using hv)) (0+1) _ rfl HX.out (by unfold maxLen;omega) o_ ?_);intro A3 c3 w5 h1 h2 h3 h4 h5;have O:=MI.more HM.1 HM.2 h3 h1 h2 (by rw[e_,<-HM.1.len];rfl);have a6:=ow1 (Row.own O.own) O.inn;have a0:=H_ (d_ O a6);clear h1 h2 h3 h4 h5 HX d9 HO HB HM O a6;go_wp2;go_roundw
       case rel=>exact⟨_,_,_,A3,0+1,c3,rfl,H_ ⟨a0.1,b'.out▸H.out.1,by have:=H.out;have:=a0.1.len;omega⟩⟩
       case measure=>rw[a0.2,H.out.2.2.1];have:=H.out;omega
      ·obtain⟨p,rfl⟩:∃p,q=p+1:=⟨q - 1,o_⟩
       have t5:(((p+1:Nat):Int)==0)=false:=beq_eq_false_iff_ne.2 o_;obtain⟨a2,m5,rfl,m6,a9⟩:=(Row.own I.ow2).it (k:=p) o_;clear a9 m6;obtain⟨g2,cur,e,_,e4,i7,r5,r6,i8⟩:=jj1 I.ow2;subst e;have m7:out.getLast?=some out[p]:=by rw[List.getLast?_eq_getElem?,<-I.len];exact j_ m5
       have hcells:∀j,j < 5->cur[p *5+j]?=(out[p]).cells[j]?:=fun j hj=>by
        rw[<-xj2 out p j m5 hj,<-i8,aY_,if_pos o_]
       generalize out[p]=y at *;have f7:=fun W=>fw2 y x W;have f8:=fun W=>ik2 x y W;obtain⟨bs,j8⟩:=n_ (y.same x);obtain⟨bw,b9⟩:=n_ (x.wins y);have i9:Mg.put out x=if bs=true then if bw=true then out.dropLast++[x] else out else out++[x]:=by
        unfold Mg.put;rw[m7,j8,b9]
       rw[<-j8]at f7;rw[<-b9]at f8;unfold It.val at f7 f8;have d3:∀w',Below U U w'->(w'.cell? g8=some (.int .i64 x.s)/\w'.cell? (g8,1)=some (.int .i64 x.k)/\w'.cell? (g8,2)=some (.int .u64 x.t)/\w'.cell? (g8,3)=some (.int .u64 x.v)/\w'.cell? (g8,4)=some (.int .i64 x.x))/\w'.cell? ⟨g2,p *5,none⟩=some (.int .i64 y.s)/\w'.cell? ⟨g2,p *5+1,none⟩=some (.int .i64 y.k)/\w'.cell? ⟨g2,p *5+2,none⟩=some (.int .u64 y.t)/\w'.cell? ⟨g2,p *5+3,none⟩=some (.int .u64 y.v)/\w'.cell? ⟨g2,p *5+4,none⟩=some (.int .i64 y.x):=fun w' hb=>by
        have e:=J.below hb;have e2:=e4.below hb;refine⟨⟨e.cell 0,e.cell 1,e.cell 2,e.cell 3,e.cell 4⟩,?_⟩;exact⟨(e2.cell (p *5)).trans (hcells 0 o_),(e2.cell (p *5+1)).trans (hcells 1 o_),(e2.cell (p *5+2)).trans (hcells 2 o_),(e2.cell (p *5+3)).trans (hcells 3 o_),(e2.cell (p *5+4)).trans (hcells 4 o_)⟩
       have t6:(p:Int) < ((p+1:Nat):Int):=o_
       have r8:p < p+1:=o_
       have t7:IntKind.i64.wrap (((p+1:Nat):Int) - 1)=(p:Int):=by rw[show ((p+1:Nat):Int) - 1=(p:Int) by omega];exact M_ _ (by have:=I.len;have:=H.out;omega)
       have r9:IntKind.i64.wrap (p:Int)=(p:Int):=M_ _ (by have:=I.len;have:=H.out;omega);have t8:(((p:Int)+1)==0)=false:=beq_eq_false_iff_ne.2 o_;have t9:((p:Int)+1=0)=False:=eq_false o_;have r':(p:Int) < (p:Int)+1:=o_
       have d4:=H_ I;have f9:=H_ J;have g4:=H_ (d_ e4 i7);have KC:=H_ d3;have h6:=H_ f7;have h7:=H_ f8;have a':=H_ i9;clear d3 f7 f8 J I e4 i7 i9 m7 hcells j8 b9 i8;refine w_h U fun z=>?_;refine w_v 0 z ?_ (k:=kz41);go_simp;refine w_v 1 z ?_ (k:=kz41);go_simp;refine w_v 2 z ?_ (k:=kz41);go_simp;refine w_v 3 z ?_ (k:=kz41);go_simp;refine w_v 4 z ?_ (k:=kz41);go_simp;refine w_v 5 z ?_ (k:=kz41);go_simp;refine w_v 6 z ?_ (k:=kz41);go_simp;refine w_v 7 z ?_ (k:=kz41);go_simp;refine w_v 8 z ?_ (k:=kz41);go_simp;refine w_r 9 fun K hK=>?_;go_simp
       with_reducible refine(h6.out _).mono ?_
       rintro e w3 ⟨rfl,j5⟩;go_simp;refine hK.out _ _ (z.trans (j5.mono z.size)) ?_;clear z hK K;intro z;go_simp;refine w_v 10 z ?_ (k:=kz41);go_simp;refine w_v 11 z ?_ (k:=kz41);go_simp;refine w_v 12 z ?_ (k:=kz41);go_simp;refine w_d ?_
       cases bs with
       |false=>
        have b':=H_ (show Mg.put out x=out++[x] from a');have I:=d4.go z;have J:=f9.below z;clear z KC h6 h7 d4 f9 g4 a';generalize w3=U2 at *;have b0:=J.cell 0;have b1:=J.cell 1;have b2:=J.cell 2;have b3:=J.cell 3;have b4:=J.cell 4;simp only[It.cells,gE0,gE1]at b0 b1 b2 b3 b4;have d7:BoxO (U2.alloc (.cells #[x.s,x.k,[x.t],[x.v],x.x] 33)) 33 (U2:Nat) x.cells:=BoxO.new U2 #[x.s,x.k,[x.t],[x.v],x.x] 33;have b5:=b_ U2 (.cells #[x.s,x.k,[x.t],[x.v],x.x] 33);have d8:=own_below I.ow2 b5;have c9:=az I.bl b5;have a5:=rj1 d7;have HX:=H_ (show itc out++x.cells=itc (out++[x]) by rw[vz];simp[itc]);have d9:=H_ a5;have HO:=H_ d8;have HB:=H_ c9;have HM:=H_ (d_ I b5);have p8:p+1+1<=1000000:=by have:=HM.1.len;have:=H.out;omega
        clear a5 d7 b5 c9 d8 I J;go_wp2_with (at_builtin;refine iq ?_);refine gz (iy rfl (.tmp 73) (.tmp 75) _ rfl (wi:Nat) 33 i0 _ 5 40 underlying34 k4 k5 k6 k7 rfl o_ wi HB.out HB.size _ (p+1) (itc out) rfl HO.out (U2.alloc (.cells #[x.s,x.k,[x.t],[x.v],x.x] 33)).heap.size _ 1 1 x.cells rfl d9.out (fun v hv=>ax1 [x] v (by simpa [itc] using hv)) (p+1+1) _ rfl HX.out (by unfold maxLen;omega) o_ ?_);intro A3 c3 w5 h1 h2 h3 h4 h5;have O:=MI.more HM.1 HM.2 h3 h1 h2 (by rw[e_,<-HM.1.len];rfl);have a6:=ow1 (Row.own O.own) O.inn;have a0:=H_ (d_ O a6);clear h1 h2 h3 h4 h5 HX d9 HO HB HM O a6;go_wp2;go_roundw
        case rel=>exact⟨_,_,_,A3,p+1+1,c3,rfl,H_ ⟨a0.1,b'.out▸H.out.1,by have:=H.out;have:=a0.1.len;omega⟩⟩
        case measure=>rw[a0.2,H.out.2.2.1];have:=H.out;omega
       |true=>
        go_wp2_with fail;refine wp_region_held_drew (S:=fun w'=>Below U U w') rfl (ax z) (fun z=>?_);refine w_v 0 z ?_ (k:=kz41);go_simp;refine w_v 1 z ?_ (k:=kz41);go_simp;refine w_v 2 z ?_ (k:=kz41);go_simp;refine w_v 3 z ?_ (k:=kz41);go_simp;refine w_v 4 z ?_ (k:=kz41);go_simp;refine w_v 5 z ?_ (k:=kz41);go_simp;refine w_r 6 fun K hK=>?_;go_simp
        with_reducible refine(h7.out _).mono ?_
        rintro e w4 ⟨rfl,c9⟩;go_simp;refine hK.out _ _ (z.trans (c9.mono z.size)) ?_;clear z hK K;intro z;go_simp;refine w_v 7 z ?_ (k:=kz41);go_simp;refine w_d ?_
        cases bw with
        |false=>
         have b':=H_ (show Mg.put out x=out from a');have O:=d4.go z;have a6:=ow1 (Row.own O.own) O.inn;have a0:=H_ (d_ O a6);clear z KC h6 h7 d4 f9 g4 a' O a6;go_wp2;go_roundw
         case rel=>exact⟨_,_,_,_,p+1,c2,rfl,H_ ⟨a0.1,b'.out▸H.out.1,by have:=H.out;have:=a0.1.len;omega⟩⟩
         case measure=>rw[a0.2,H.out.2.2.1];have:=H.out;omega
        |true=>
         have b':=H_ (show Mg.put out x=out.dropLast++[x] from a');have O:=MI.over (d4.go z) x;have a6:=ow1 (Row.own O.own) O.inn;have a0:=H_ (d_ O a6);obtain⟨⟨b0,b1,b2,b3,b4⟩,y0,y1,y2,y3,y4⟩:=KC.out _ z;have a4:=g4.1.below z;have f0:=a4.free (p *5);have f1:=a4.free (p *5+1);have f2:=a4.free (p *5+2);have f3:=a4.free (p *5+3);have f4:=a4.free (p *5+4);clear z KC h6 h7 d4 f9 g4 a' O a6 a4;go_wp2;go_roundw
         case rel=>exact⟨_,_,_,_,p+1,c2,rfl,H_ ⟨a0.1,b'.out▸H.out.1,by have:=H.out;have:=a0.1.len;omega⟩⟩
         case measure=>exact Nat.lt_of_le_of_lt (a4_ a0.2) (by rw[H.out.2.2.1];have:=H.out;omega)
end Go.Proofs.YtfbkjjdfboagfaaGreatDoor
