/- Some of the texts. No conditions. -/
import Derived.Test.YtkdbagdiplpcfaaGreatDoorBunAS
import Derived.Test.YtkdbagdiplpcfaaGreatDoorBunAT

set_option linter.unusedSimpArgs false
set_option linter.unusedVariables false
set_option maxRecDepth 100000
set_option maxHeartbeats 16000000
namespace Go.Proofs.YtkdbagdiplpcfaaGreatDoor
open Go.Proofs.Tryz Go Go.RowKit Go.Lib Go.Shelf
abbrev Tq:=((Int×Int)×List (List It))×Nat
structure Yw where
 s:Nat
 m:Nat
 g:Nat
 mm:Nat
 L:Nat
 ns:List Nd
 P:Sl
 T:Sl
 A:Sl
 q:List Tq
def Yw.foot (Y:Yw):List Nat:=Y.s::Y.m::Y.g::Y.mm::skF Y.L Y.ns
def Yw.cells (Y:Yw) (xd:Nat) (V:Sv):List Value:=[.pointer (some ⟨xd,0,none⟩),.pointer (some ⟨Y.m,0,none⟩),.pointer (some ⟨Y.g,0,none⟩),.pointer (some ⟨Y.mm,0,none⟩),.slice Y.T.a Y.T.n Y.T.c,.slice Y.A.a Y.A.n Y.A.c,.int .i64 (Y.A.n:Int),.int .u32 (if V.only=true then 1 else 0),.int .i32 0,.int .u32 0,.bool V.only]
def hcells (q:List Tq):List Value:=q.flatMap fun p=>[.int .i64 p.1.1.1,.int .i64 p.1.1.2,.pointer (some ⟨p.2,0,none⟩)]
def fy1 (w:World) (T:Sl) (q:List Tq) (ts:List ((Int×Int)×List (List It))):Prop:=q.map (·.1)=ts/\Row w.heap.size w T.a T.n 3 (hcells q)/\T.n<=T.c/\T.c<=maxLen/\(T.a=none->T.n=0/\T.c=0)/\∀p∈q,TbAt w p.2 p.1.2
theorem tq (q:List Tq):(hcells q).length=q.length *3:=by
 induction q with
 |nil=>rfl
 |cons p q C=>
  unfold hcells at C ⊢;rw[S_,d_,C,q_];simp only[q_,V_];omega
theorem fy1.len {w:World} {T:Sl} {q:List Tq} {ts:List ((Int×Int)×List (List It))} (h:fy1 w T q ts):T.n=ts.length:=by
 obtain⟨rfl,h1,_⟩:=h;have:=h1.len;rw[tq]at this;rw[F_];omega
structure Yw.Apart (X:Dw) (Y:Yw):Prop where
 x:∀g∈Y.foot,g∉X.foot
 s:Y.s∉Y.m::Y.g::Y.mm::skF Y.L Y.ns
 m:Y.m∉Y.g::Y.mm::skF Y.L Y.ns
 g:Y.g∉Y.mm::skF Y.L Y.ns
abbrev XY (X:Dw) (Y:Yw):List Nat:=X.foot++Y.foot
structure SvAt (w:World) (X:Dw) (S:Sd) (Y:Yw) (V:Sv):Prop where
 dm:Dm w X S
 box:BoxO w 81 Y.s (Y.cells X.d V)
 man:GK w Y.m X.d V.M Y.P
 row:Vrow w X Y.m Y.P V.M.v.files
 pout:∀j,j < (dw V.M.v.files).length->∀a,Y.P.a=some a->a.block∉Y.foot
 log:LgAt w Y.g X.d V.nm V.sz V.ct
 mem:MmAt w Y.mm Y.L Y.ns
 its:its Y.ns=V.mem
 tabs:vz (XY X Y) w fun w=>fy1 w Y.T Y.q V.tabs
 st:vz (XY X Y) w fun w=>Its 0 w Y.A.a Y.A.n Y.A.c V.st
 apart:Y.Apart X
 ng:∀g∈Y.foot,NG<=g
variable {w w1 w2:World} {X X1 X2:Dw} {S S1 S2:Sd} {Y Y1 Y2:Yw} {V V1 V2:Sv}
theorem Yw.aj {g:Nat}:g∈Y.foot↔g=Y.s\/g=Y.m\/g=Y.g\/g=Y.mm\/g∈skF Y.L Y.ns:=by simp[Yw.foot]
theorem MmAt.lt {w:World} {m L:Nat} {ns:List Nd} (h:MmAt w m L ns):∀g∈m::skF L ns,g < w.heap.size:=by
 intro g C
 rcases f_.1 C with rfl|C
 ·obtain⟨_,E⟩:=h.box
  exact E.lt
 ·exact h.sk.lt g C
theorem SvAt.ylt (h:SvAt w X S Y V):∀g∈Y.foot,g < w.heap.size:=by
 intro g C
 rcases Yw.aj.1 C with rfl|rfl|rfl|rfl|h1
 ·exact h.box.lt
 ·exact h.man.lt
 ·exact h.log.lt
 ·exact h.mem.lt _ i_
 ·exact h.mem.lt _ (e_ _ h1)
theorem SvAt.lt (h:SvAt w X S Y V):∀g∈XY X Y,g < w.heap.size:=by
 intro g C
 rcases k_.1 C with h1|h1
 ·exact h.dm.dk.lt g h1
 ·exact h.ylt g h1
theorem SvAt.alen (h:SvAt w X S Y V):Y.A.n=V.st.length:=h.st.now.row.qj.symm
theorem SvAt.tlen (h:SvAt w X S Y V):Y.T.n=V.tabs.length:=h.tabs.now.len
theorem SvAt.plen (h:SvAt w X S Y V):Y.P.n=V.M.v.files.length:=by
 have:=h.row.row.len;unfold dw at this;have e:∀l:List (Int×Int),(l.flatMap fun f=>[Value.int .i64 f.1,Value.int .i64 f.2]).length=l.length *2:=fun l=>by
  induction l with
  |nil=>rfl
  |cons a l C=>rw[S_,d_,C,q_];simp only[q_,V_];omega
 rw[e]at this;omega
theorem SvAt.chg {G:List Nat} (h:SvAt w X S Y V) (c:Chg G w w1) (H:∀g∈G,g∉XY X Y/\NG<=g) (I:∀a,Y.P.a=some a->a.block∉G) (J:vz (XY X Y) w1 fun w=>fy1 w Y.T Y.q V.tabs) (hs:vz (XY X Y) w1 fun w=>Its 0 w Y.A.a Y.A.n Y.A.c V.st):SvAt w1 X S Y V:=by
 have E:∀g∈Y.foot,g∉G:=fun g h1 h2=>(H g h2).1 (p_ _ h1);refine⟨h.dm.chg c (fun g C=>⟨fun O=>(H g C).1 (x_ _ O),(H g C).2⟩),h.box.chg c (E _ (Yw.aj.2 (.inl rfl))),h.man.chg c (E _ (Yw.aj.2 (.inr (.inl rfl)))),?_,h.pout,h.log.chg c (E _ (Yw.aj.2 (.inr (.inr (.inl rfl))))),h.mem.chg c (fun g C=>E g (Yw.aj.2 ?_)),h.its,J,hs,h.apart,h.ng⟩
 ·exact⟨(kz c h.row.row l_ (fun j hj a Q=>I a Q)).up c.size,h.row.nc,h.row.cm,h.row.nb,h.row.away⟩
 ·rcases f_.1 C with rfl|C
  ·exact .inr (.inr (.inr (.inl rfl)))
  ·exact .inr (.inr (.inr (.inr C)))
theorem SvAt.below (h:SvAt w X S Y V) (C:Below w.heap.size w w1):SvAt w1 X S Y V:=
 h.chg (G:=[]) (Chg.of_below C []) (fun g E=>by cases E) (fun a _ H=>by cases H) (h.tabs.below C) (h.st.below C)
def aw1 (X:Dw) (Y:Yw) (w w1:World) (S1:Sd) (V1:Sv):Prop:=∃X1 Y1,X1.d=X.d/\Y1.s=Y.s/\SvAt w1 X1 S1 Y1 V1/\Chg (XY X Y) w w1/\∀g∈XY X1 Y1,g∈XY X Y\/w.heap.size<=g
def gx1 (X:Dw) (Y:Yw) (w:World) (R:Sd×Sv×Nat) (e:Ending) (w1:World):Prop:=e=.returned (.int .i64 (R.2.2:Int))/\aw1 X Y w w1 R.1 R.2.1
theorem aw1.refl (h:SvAt w X S Y V):aw1 X Y w w S V:=⟨X,Y,rfl,rfl,h,Chg.refl _ _,fun _ C=>.inl C⟩
theorem aw1.same (h:SvAt w X S Y V) (C:Below w.heap.size w w1):aw1 X Y w w1 S V:=⟨X,Y,rfl,rfl,h.below C,Chg.of_below C _,fun _ E=>.inl E⟩
theorem aw1.trans (H:X1.d=X.d) (I:Y1.s=Y.s) (c:Chg (XY X Y) w w1) (E:∀g∈XY X1 Y1,g∈XY X Y\/w.heap.size<=g) (k:aw1 X1 Y1 w1 w2 S2 V2):aw1 X Y w w2 S2 V2:=by
 obtain⟨X2,Y2,J,O,h,c2,C⟩:=k;refine⟨X2,Y2,J.trans H,O.trans I,h,c.trans c2 E,fun g Q=>?_⟩
 rcases C g Q with h1|h1
 ·exact E g h1
 ·exact .inr (j_ c.size h1)
theorem SvAt.disk (h:SvAt w X S Y V) (O:UpdM X w w1 S1):∃X1,X1.d=X.d/\SvAt w1 X1 S1 Y V/\Chg (XY X Y) w w1/\(∀g∈XY X1 Y,g∈XY X Y\/w.heap.size<=g):=by
 obtain⟨X1,e,hd,c,J⟩:=O;have I:∀g∈Y.foot,g∉X.foot:=h.apart.x;have E:Chg (XY X Y) w w1:=c.mono fun g C=>.inl (x_ _ C);have H:∀g∈XY X1 Y,g∈XY X Y\/w.heap.size<=g:=fun g C=>by
  rcases k_.1 C with h1|h1
  ·rcases J g h1 with h2|h2
   ·exact .inl (x_ _ h2)
   ·exact .inr h2
  ·exact .inl (p_ _ h1)
 refine⟨X1,e,⟨hd,by rw[e];exact h.box.chg c (I _ (Yw.aj.2 (.inl rfl))),by rw[e];exact h.man.chg c (I _ (Yw.aj.2 (.inr (.inl rfl)))),h.row.step c J,h.pout,by rw[e];exact h.log.chg c (I _ (Yw.aj.2 (.inr (.inr (.inl rfl))))),h.mem.chg c (fun g C=>I g (Yw.aj.2 ?_)),h.its,h.tabs.step E H,h.st.step E H,⟨fun g C Q=>?_,h.apart.s,h.apart.m,h.apart.g⟩,h.ng⟩,E,H⟩
 ·rcases f_.1 C with rfl|C
  ·exact .inr (.inr (.inr (.inl rfl)))
  ·exact .inr (.inr (.inr (.inr C)))
 ·rcases J g Q with h1|h1
  ·exact I g C h1
  ·have:=h.ylt g C
   omega
theorem SvAt.ev6 (h:SvAt w X S Y V):Y.m∉X.foot:=h.apart.x _ (Yw.aj.2 (.inr (.inl rfl)))
theorem SvAt.gst (h:SvAt w X S Y V):Gst Y.P Y.m X w S V.M w X:=Gst.start h.dm h.man h.row h.ev6 (h.ng _ (Yw.aj.2 (.inr (.inl rfl))))
theorem SvAt.ej6 (h:SvAt w X S Y V) {M1:Gs} {J:Sl} (k:Gst J Y.m X w S1 M1 w1 X1) (Q:J=Y.P\/∀a,J.a=some a->w.heap.size<=a.block):SvAt w1 X1 S1 { Y with P:=J } { V with M:=M1 }/\Chg (XY X Y) w w1/\∀g∈XY X1 { Y with P:=J },g∈XY X Y\/w.heap.size<=g:=by
 have hn:∀g∈Y.foot,g∉X.foot:=h.apart.x;have e:=k.acc.e;have hf:=k.acc.f;have c:Chg ([Y.m] ++X.foot) w w1:=k.acc.c;have H:Chg (XY X Y) w w1:=c.mono fun g C=>.inl (by
  rcases k_.1 C with h1|h1
  ·rw[a_.1 h1]
   exact p_ _ (Yw.aj.2 (.inr (.inl rfl)))
  ·exact x_ _ h1)
 have I:∀g∈XY X1 Y,g∈XY X Y\/w.heap.size<=g:=fun g C=>by
  rcases k_.1 C with h1|h1
  ·rcases hf g h1 with h2|h2
   ·exact .inl (x_ _ h2)
   ·exact .inr h2
  ·exact .inl (p_ _ h1)
 have U:∀g∈Y.foot,g≠Y.m->g∉[Y.m] ++X.foot:=fun g C Z E=>by
  rcases k_.1 E with h1|h1
  ·exact Z (a_.1 h1)
  ·exact hn g C h1
 have O:=h.apart.s;have am:=h.apart.m;refine⟨⟨k.acc.dm,by rw[e];exact h.box.chg c (U _ (Yw.aj.2 (.inl rfl)) (fun e=>O (by rw[e];exact i_))),by rw[e];exact k.man,k.row,fun j hj a ha=>?_,by rw[e];exact h.log.chg c (U _ (Yw.aj.2 (.inr (.inr (.inl rfl)))) (fun e=>am (by rw[<-e];exact i_))),h.mem.chg c (fun g C=>U g (Yw.aj.2 ?_) (fun e=>am (by rw[<-e];exact e_ _ C))),h.its,h.tabs.step H I,h.st.step H I,⟨fun g C E=>?_,O,am,h.apart.g⟩,h.ng⟩,H,I⟩
 ·rcases Q with rfl|Q
  ·refine h.pout j ?_ a ha
   have l1:=k.row.row.len;have l2:=h.row.row.len;rw[l2,<-l1];exact hj
  ·intro E
   have:=h.ylt _ E;have:=Q a ha;omega
 ·rcases f_.1 C with rfl|C
  ·exact .inr (.inr (.inr (.inl rfl)))
  ·exact .inr (.inr (.inr (.inr C)))
 ·rcases hf g E with h1|h1
  ·exact hn g C h1
  ·have:=h.ylt g C
   omega
theorem SvAt.sbox (h:SvAt w X S Y V) (c:Chg [Y.s] w w1) (U:BoxO w1 81 Y.s (Y1.cells X.d V1)) (J:Y1={ Y with A:=Y1.A }) (O:V1={ V with only:=V1.only,st:=V1.st }) (hs:vz (XY X Y) w1 fun w=>Its 0 w Y1.A.a Y1.A.n Y1.A.c V1.st):SvAt w1 X S Y1 V1/\Chg (XY X Y) w w1:=by
 have H:Chg (XY X Y) w w1:=c.mono fun g C=>.inl (by
  rw[a_.1 C];exact p_ _ (Yw.aj.2 (.inl rfl)))
 have I:∀g∈Y.m::Y.g::Y.mm::skF Y.L Y.ns,g∉[Y.s]:=fun g C E=>h.apart.s (by rw[<-a_.1 E];exact C);obtain⟨Q,ho,Z,hv⟩:∃Q:Sl,∃b:Bool,∃l:List It,Q=Y1.A/\b=V1.only/\l=V1.st:=⟨_,_,_,rfl,rfl,rfl⟩;obtain⟨q1,q2,q3⟩:=hv;rw[<-q1]at J;rw[<-q2,<-q3]at O;subst J O;refine⟨⟨h.dm.chg c (fun g C=>by rw[a_.1 C];exact⟨h.apart.x _ (Yw.aj.2 (.inl rfl)),h.ng _ (Yw.aj.2 (.inl rfl))⟩),U,h.man.chg c (I _ i_),?_,h.pout,h.log.chg c (I _ (e_ _ i_)),h.mem.chg c (fun g C=>I _ (e_ _ (e_ _ C))),h.its,h.tabs.step H (fun g C=>.inl C),hs,⟨h.apart.x,h.apart.s,h.apart.m,h.apart.g⟩,h.ng⟩,H⟩;exact⟨(kz c h.row.row l_ (fun j hj a ha E=>h.pout j hj a ha (by rw[a_.1 E];exact Yw.aj.2 (.inl rfl)))).up c.size,h.row.nc,h.row.cm,h.row.nb,h.row.away⟩
theorem SvAt.scr (H:SvAt w X S Y V) (h:SvAt w1 X1 S1 Y V) (c:Chg (XY X Y) w w1) (O:∀g∈XY X1 Y,g∈XY X Y\/w.heap.size<=g) {G:List Nat} (E:∀g∈G,w.heap.size<=g/\g∉XY X1 Y) (c2:Chg G w1 w2):SvAt w2 X1 S1 Y V:=by
 have c3:Chg (XY X Y) w w2:=c.trans c2 fun g C=>.inr (E g C).1;have U:=H.dm.env.base;have I:∀g∈Y.foot,g∉G:=fun g h1 h2=>(E g h2).2 (p_ _ h1);refine⟨h.dm.chg c2 (fun g C=>⟨fun J=>(E g C).2 (x_ _ J),by have:=(E g C).1;omega⟩),h.box.chg c2 (I _ (Yw.aj.2 (.inl rfl))),h.man.chg c2 (I _ (Yw.aj.2 (.inr (.inl rfl)))),?_,h.pout,h.log.chg c2 (I _ (Yw.aj.2 (.inr (.inr (.inl rfl))))),h.mem.chg c2 (fun g C=>I g (Yw.aj.2 ?_)),h.its,H.tabs.step c3 O,H.st.step c3 O,h.apart,h.ng⟩
 ·refine⟨(kz c2 h.row.row l_ (fun j hj a Q J=>?_)).up c2.size,h.row.nc,h.row.cm,h.row.nb,h.row.away⟩
  obtain⟨b,e,q1,_⟩:=H.row.row.cell j hj;rw[Q]at e;injection e with e;subst e;have:=(E _ J).1;omega
 ·rcases f_.1 C with rfl|C
  ·exact .inr (.inr (.inr (.inl rfl)))
  ·exact .inr (.inr (.inr (.inr C)))
section
variable {w w1 w2:World} {X X1 X2:Dw} {S S1 S2:Sd} {Y Y1 Y2:Yw} {V V1 V2:Sv}
theorem cj4 (s k:List UInt8) (C:k=Mn.kLog\/k=Mn.kTab):0<=(Mn.number s k).getD 0/\(Mn.number s k).getD 0<=1073741824:=by
 cases h:Mn.number s k with
 |none=>exact⟨by simp,by simp⟩
 |some v=>
  have hs:s≠[]:=fun e=>by
   subst e
   rcases C with rfl|rfl<;>
   ·unfold Mn.number at h
    rw[if_neg (by decide)]at h
    cases h
  have:=Mn.lv1 h hs;exact⟨by simp;omega,by simp;omega⟩
theorem dx1 (k:List UInt8) (C:k=Mn.kLog\/k=Mn.kTab):∀(l:List (List UInt8)) (a:Int),0<=a->a<=1073741824->0<=l.foldl (fun m s=>max m ((Mn.number s k).getD 0)) a/\l.foldl (fun m s=>max m ((Mn.number s k).getD 0)) a<=1073741824
 |[],a,h1,h2=>⟨h1,h2⟩
 |s::r,a,h1,h2=>by
  obtain⟨h3,h4⟩:=cj4 s k C;simp only[aT_];exact dx1 k C r _ o_ o_
theorem kz47 {P S a oi v} (h:Hv P S a oi v:=by intro w C;(have k0:=(HX.out.below C).cell 0;simp only[Yw.cells,gE0,gE1]at k0);go_simp;try (with_reducible rfl)):Hv P S a oi v:=h
theorem gz2 (h:SvAt w X S Y V):
  Calls prog 140 #[.pointer (some ⟨Y.s,0,none⟩)] w fun e w'=>e=.returned (if 1073741824 < St.number S then .tuple #[.int .i64 0,.int .i64 65] else .tuple #[.int .i64 (St.number S),.int .i64 0])/\Below w.heap.size w w':=by
 have Q:=fun(k:List UInt8) (hk:k.length<=1000) (W:World) (hb:Below w.heap.size w W)=>fx3 X S (str k) (by rw[ny];exact hk) W (h.dm.below hb);have E:=Q Mn.kLog (by decide);have H:=Q Mn.kTab (by decide);rw[oz]at E H;rw[show str Mn.kLog=({ data:=#[108,111,103] }:ByteArray) from rfl]at E;rw[show str Mn.kTab=({ data:=#[116,97,98] }:ByteArray) from rfl]at H;have a9:0<=Mn.greatest S.list Mn.kLog/\Mn.greatest S.list Mn.kLog<=1073741824:=dx1 Mn.kLog (.inl rfl) S.list 0 o_ o_;have a':0<=Mn.greatest S.list Mn.kTab/\Mn.greatest S.list Mn.kTab<=1073741824:=dx1 Mn.kTab (.inr rfl) S.list 0 o_ o_;unfold St.number;generalize Mn.greatest S.list Mn.kLog=a at *;generalize Mn.greatest S.list Mn.kTab=b at *;obtain⟨c,U⟩:=n_ (max a b);have b0:0<=c/\c<=1073741824:=o_
 rw[<-U];have H1:=H_ E;have H2:=H_ H;have HX:=H_ h.box;have HC:=H_ U;clear Q E H h U
 by_cases Z:1073741824 < c+1
 all_goals
 ·simp only[Z,if_true,if_false]
  go_enter func140,ntmps140;go_wp2_with fail;refine w_h w fun C=>?_;refine w_v 0 C ?_ (k:=kz47);go_simp;refine w_v 1 C ?_ (k:=kz47);go_simp;refine w_v 2 C ?_ (k:=kz47);go_simp;refine w_v 3 C ?_ (k:=kz47);go_simp;refine w_v 5 C ?_ (k:=kz47);go_simp;refine w_v 6 C ?_ (k:=kz47);go_simp;refine w_v 7 C ?_ (k:=kz47);go_simp;refine w_v 8 C ?_ (k:=kz47);go_simp;refine w_r 4 fun K I=>?_;go_simp
  with_reducible refine(H1.out _ C).mono ?_
  rintro e w3 ⟨rfl,J⟩;go_simp;refine I.out _ _ (az C J) ?_;clear C I K;intro C;go_simp;refine w_r 9 fun K I=>?_;go_simp
  with_reducible refine(H2.out _ C).mono ?_
  rintro e w4 ⟨rfl,O⟩;go_simp;refine I.out _ _ (az C O) ?_;clear C I K;intro C;go_simp;refine w_r 10 fun K I=>?_
  skip
  go_simp;refine I.out _ _ C ?_;clear C I K;intro C;go_simp;refine w_v 11 C ?_ (k:=kz47);go_simp;refine w_v 12 C ?_ (k:=kz47);go_simp;refine w_d ?_;have hw:IntKind.i64.wrap (c+1)=c+1:=D_ _ o_;rw[<-HC.out,hw];have a0:=az (az (ak b0_) J) O;clear C J O H1 H2 HX;go_wp2;go_ret2;exact⟨rfl,a0⟩
theorem pk2 (h:SvAt w X S Y V) (er:Nat):
  Calls prog 73 #[.pointer (some ⟨Y.s,0,none⟩),.int .i64 (er:Int)] w fun e w'=>e=.returned (.int .i64 (er:Int))/\SvAt w' X S Y { V with only:=true }/\Chg (XY X Y) w w':=by
 have C:=b_ w (.cells #[.pointer (some ⟨Y.s,0,none⟩)] 37);have a6:=h.box.lt;have h1:=h.below C;have hp:(w.alloc (.cells #[.pointer (some ⟨Y.s,0,none⟩)] 37)).cell? ⟨w.heap.size,0,none⟩=some (.pointer (some ⟨Y.s,0,none⟩)):=by simp
 obtain⟨W,Z⟩:=n_ (w.alloc (.cells #[.pointer (some ⟨Y.s,0,none⟩)] 37));rw[<-Z]at C h1 hp;have HV:=H_ Z;clear Z;have c7:=h1.box.cell 7;have c8:=h1.box.cell 8;have E:=h1.box.cell 10;simp only[Yw.cells,gE0,gE1]at c7 c8 E;have a7:∀(fn:Fn) (first cap:Array Value) (w:World),(Instr.makeFunc fn first cap).run prog w=.ok (.func fn first cap) w:=fun _ _ _ _=>rfl
 cases O:V.only with
 |false=>
  rw[O]at c7 E;simp only[af_,if_false]at c7;have I:=Sonce.do_first Y.s ⟨w.heap.size,0,none⟩ (by simp;omega) _ W hp c7 c8 E (h1.box.free 7) (h1.box.free 8) (h1.box.free 10);have Q:=((((h1.box.store 8 (.int .i32 1)).store 10 (.bool true)).drew.store 7 (.int .u32 1)).store 8 (.int .i32 0));have J:Chg [Y.s] W ((((W.setCell ⟨Y.s,8,none⟩ (.int .i32 1)).setCell ⟨Y.s,10,none⟩ (.bool true)).drew.setCell ⟨Y.s,7,none⟩ (.int .u32 1)).setCell ⟨Y.s,8,none⟩ (.int .i32 0)):=(((((Chg.refl [Y.s] W).setCell _ (.inl s_)).setCell _ (.inl s_)).drew).setCell _ (.inl s_)).setCell _ (.inl s_);have H:=h1.sbox (Y1:=Y) (V1:={ V with only:=true }) J Q rfl rfl (h1.st.step (J.mono fun g U=>.inl (by rw[a_.1 U];exact p_ _ (Yw.aj.2 (.inl rfl)))) (fun g U=>.inl U));have HR:=H_ (c_ H.1 ((Chg.of_below C (XY X Y)).trans H.2 (fun g U=>.inl U)));clear H J Q O h h1 C E;go_enter func73,ntmps73;go_wp2_with fail;rw[<-HV.out];refine I.mono ?_;rintro e w2 ⟨rfl,rfl⟩;go_wp2;go_ret;exact⟨rfl,HR.out⟩
 |true=>
  rw[O]at c7;simp only[if_true]at c7;have I:=Once.do_done ⟨Y.s,7,none⟩ 1 o_ (.func (.func 153) #[] #[.pointer (some ⟨w.heap.size,0,none⟩)]) W c7;have e:({ V with only:=true }:Sv)=V:=by cases V;simp at O;simp[O]
  have HR:=H_ (c_ (show SvAt W X S Y { V with only:=true } by rw[e];exact h1) (Chg.of_below C (XY X Y)));clear O h h1 C E e;go_enter func73,ntmps73;go_wp2_with fail;rw[<-HV.out];refine I.mono ?_;rintro e w2 ⟨rfl,a1⟩;obtain rfl:=a1.symm;go_wp2;go_ret;exact⟨rfl,HR.out⟩
def hval (lev n:Int) (f:Nat):Value:=.agg #[.int .i64 lev,.int .i64 n,.pointer (some ⟨f,0,none⟩)]
def dj3 (X:Dw) (Y:Yw) (w:World) (V:Sv) (l:List It) (lev n:Int) (R:Sd×Nat) (e:Ending) (w':World):Prop:=∃(a b:Int) (p:Option Addr) (X':Dw),e=.returned (.tuple #[.agg #[.int .i64 a,.int .i64 b,.pointer p],.int .i64 (R.2:Int)])/\X'.d=X.d/\SvAt w' X' R.1 Y V/\Chg (XY X Y) w w'/\(∀g∈XY X' Y,g∈XY X Y\/w.heap.size<=g)/\(R.2=0->∃f,a=lev/\b=n/\p=some ⟨f,0,none⟩/\∀G,(∀g∈G,g∈XY X' Y\/g < w.heap.size)->vz G w' fun W=>TbAt W f (Tb.rows l))
structure Way (w0:World) (X0:Dw) (Y:Yw) (V:Sv) (w:World) (X:Dw) (S:Sd):Prop where
 at_:SvAt w X S Y V
 d:X.d=X0.d
 c:Chg (XY X0 Y) w0 w
 f:∀g∈XY X Y,g∈XY X0 Y\/w0.heap.size<=g
theorem Way.start (h:SvAt w X S Y V):Way w X Y V w X S:=⟨h,rfl,Chg.refl _ _,fun _ C=>.inl C⟩
theorem Way.below {w0:World} {X0:Dw} (k:Way w0 X0 Y V w X S) (C:Below w.heap.size w w1):Way w0 X0 Y V w1 X S:=⟨k.at_.below C,k.d,k.c.trans (Chg.of_below C []) (fun g E=>by cases E),k.f⟩
theorem Way.disk {w0:World} {X0:Dw} (k:Way w0 X0 Y V w X S) (C:UpdM X w w1 S1):∃X1,X1.d=X.d/\Way w0 X0 Y V w1 X1 S1/\Chg (XY X Y) w w1/\∀g∈XY X1 Y,g∈XY X Y\/w.heap.size<=g:=by
 obtain⟨X1,e,h1,c1,f1⟩:=k.at_.disk C;refine⟨X1,e,⟨h1,e.trans k.d,k.c.trans c1 k.f,fun g E=>?_⟩,c1,f1⟩
 rcases f1 g E with q|q
 ·exact k.f g q
 ·exact .inr (j_ k.c.size q)
theorem Way.scr {w0:World} {X0:Dw} {S0:Sd} (E:SvAt w0 X0 S0 Y V) (k:Way w0 X0 Y V w X S) {G:List Nat} (C:∀g∈G,w0.heap.size<=g/\g∉XY X Y) (c2:Chg G w w1):Way w0 X0 Y V w1 X S:=
 ⟨E.scr k.at_ k.c k.f C c2,k.d,k.c.trans c2 fun g H=>.inr (C g H).1,k.f⟩
theorem Way.upd {w0:World} {X0:Dw} (k:Way w0 X0 Y V w X S):aw1 X0 Y w0 w S V:=⟨X,Y,k.d,rfl,k.at_,k.c,k.f⟩
theorem cg3 (g:Nat) (w:World) (a b c:Value):Chg [g] w (((w.setCell ⟨g,0,none⟩ a).setCell ⟨g,1,none⟩ b).setCell ⟨g,2,none⟩ c):=
 (((Chg.refl [g] w).setCell _ (.inl s_)).setCell _ (.inl s_)).setCell _ (.inl s_)
theorem Tb.ek5 {l:List It} (h:l.length<=2000):(Tb.make l).length<=100000:=by
 have h1:(Tb.rows l).length<=100:=by
  have:=Tb.sz1 20 o_ l.length l;unfold Tb.rows;omega
 have h2:=Tb.qk1 (Tb.rows l) (fun r C=>(Tb.ky1 20 o_ _ _ r C).2.1);have h3:=Tb.my1 0 (Tb.rows l);have h4:=Tb.tv2 l h;unfold Tb.make;simp only[d_,Fr.vk];have E:=Pn.jq (Tb.blocks (Tb.rows l)).length;have H:=Pn.jq ((Tb.blocks (Tb.rows l)).length+((Tb.index 0 (Tb.rows l)).length+12));have I:=Pn.jq l.length;omega
theorem oq1 (S:Sd):1<=St.number S/\St.number S<=1073741825:=by
 have C:0<=Mn.greatest S.list Mn.kLog/\Mn.greatest S.list Mn.kLog<=1073741824:=dx1 Mn.kLog (.inl rfl) S.list 0 o_ o_;have E:0<=Mn.greatest S.list Mn.kTab/\Mn.greatest S.list Mn.kTab<=1073741824:=dx1 Mn.kTab (.inr rfl) S.list 0 o_ o_;unfold St.number;omega
theorem ik1 (k:List UInt8) (n:Int):(Mn.name k n).length<=1000:=by
 by_cases C:Mn.name k n=[]
 ·rw[C];simp
 ·have:=Mn.xx2 C
  omega
theorem ry2 (h:SvAt w X S Y V) (L:Option Addr) (m d:Nat) (l:List It) (hm:m<=2000) (k':m<=d) (hq:Row w.heap.size w L m 5 (itc l)) (hf:∀x∈l,x.fit) (e6:Tb.good l=true) (lev:Int) (o8:S.load<=1000000000000):
  Calls prog 62 #[.pointer (some ⟨Y.s,0,none⟩),.slice L m d,.int .i64 lev] w (dj3 X Y w V l lev (St.number S) (St.write S l)):=by
 have e7:=hq.qj;have a2:=b_ w (.cells #[.int .i64 0,.int .i64 0,.pointer none] 92);have a0:=BoxO.new w #[.int .i64 0,.int .i64 0,.pointer none] 92;obtain⟨W,hW⟩:=n_ (w.alloc (.cells #[.int .i64 0,.int .i64 0,.pointer none] 92));obtain⟨J,d8⟩:=n_ w.heap.size;rw[<-d8]at a0;rw[<-hW]at a2 a0;have d1:∀g∈XY X Y,g < w.heap.size:=h.lt;have k1:Way w X Y V W X S:=(Way.start h).below a2;have e9:=qv2 L m d l W o_ k' ((hq.below a2).up a2.size) hf;obtain⟨n,hn⟩:=n_ (St.number S);have l4:=oq1 S;have l5:(Mn.name Mn.kTab n).length<=1000:=ik1 _ _;obtain⟨R,E⟩:=n_ (St.write S l);unfold St.write at E;have e':St.write S l=R:=by rw[E];rfl
 rw[e'];rw[<-hn]at E l4 ⊢;have f5:l.length<=2000:=o_
 have f6:=Tb.ek5 f5;have f7:=Tb.iz4 e6 hf;have l6:=a0.lt;have d2:∀(w':World) (X':Dw) (S':Sd) (er:Nat),Way w X Y V w' X' S'->J∉XY X' Y->er≠0->R=(S',er)->dj3 X Y w V l lev n R (.returned (.tuple #[.agg #[.int .i64 0,.int .i64 0,.pointer none],.int .i64 (er:Int)])) (((w'.setCell ⟨J,0,none⟩ (.int .i64 0)).setCell ⟨J,1,none⟩ (.int .i64 0)).setCell ⟨J,2,none⟩ (.pointer none)):=by
  intro w' X' S' er k hx l8 he;have Q:=Way.scr h k (G:=[J]) (fun g O=>by rw[a_.1 O];exact⟨o_,hx⟩) (cg3 J w' (.int .i64 0) (.int .i64 0) (.pointer none));rw[he];exact⟨_,_,_,_,rfl,Q.d,Q.at_,Q.c,Q.f,fun h0=>absurd h0 l8⟩
 have a4:∀(w':World) (X':Dw) (S':Sd) (er f:Nat),Way w X Y V w' X' S'->J∉XY X' Y->(∀G W,(∀g∈G,g∈XY X' Y\/g < w.heap.size)->Chg G (((w'.setCell ⟨J,0,none⟩ (.int .i64 lev)).setCell ⟨J,1,none⟩ (.int .i64 n)).setCell ⟨J,2,none⟩ (.pointer (some ⟨f,0,none⟩))) W->TbAt W f (Tb.rows l))->R=(S',er)->dj3 X Y w V l lev n R (.returned (.tuple #[hval lev n f,.int .i64 (er:Int)])) (((w'.setCell ⟨J,0,none⟩ (.int .i64 lev)).setCell ⟨J,1,none⟩ (.int .i64 n)).setCell ⟨J,2,none⟩ (.pointer (some ⟨f,0,none⟩))):=by
  intro w' X' S' er f k hx ht he;have Q:=Way.scr h k (G:=[J]) (fun g O=>by rw[a_.1 O];exact⟨o_,hx⟩) (cg3 J w' (.int .i64 lev) (.int .i64 n) (.pointer (some ⟨f,0,none⟩)));rw[he];exact⟨_,_,_,_,rfl,Q.d,Q.at_,Q.c,Q.f,fun _=>⟨f,rfl,rfl,rfl,fun G hG W c=>ht G W hG c⟩⟩
 have H:=H_ d2;have I:=H_ a4;clear d2 a4;have HV:=H_ hW;have HG:=H_ d8;have f9:=H_ e9;have HR:=H_ E;have f':=H_ f7;have HN:=H_ hn;have HX:=H_ d1;have g0:=H_ (c_ e7 f6);clear e9 E e' f7 hn d1 f6 f5 e7 hq a2 d8 hW;go_enter func62,ntmps62;go_wp2_with fail;rw[<-HV.out,<-HG.out]
 refine m_ f9 ?_
 rintro e w2 (⟨_,A',M,c',rfl,ho,m0,m1,g2⟩|⟨d4,_⟩)
 rotate_left
 ·rw[e6]at d4
  cases d4
 have k2:=k1.below g2;have g4:vz (XY X Y) w2 fun W'=>BoxO W' 92 J #[.int .i64 0,.int .i64 0,.pointer none].toList/\Row W'.heap.size W' A' M 1 (bts (Tb.make l)):=by
  obtain⟨P,c0,q1,q2,q3,q4⟩:=gz ho;injection q1 with q1 _ _;subst q1;have m4:=a0.below g2;have m5:=Row.own ho;refine vz.and (fun W' c=>m4.chg c (fun hm=>?_)) (fun W' c=>(kz c m5 l_ (fun j _ a U hm=>?_)).up c.size)
  ·have:=HX.out _ hm
   have:=HG.out;omega
  ·have:=HX.out _ hm
   have:=(q4 a U).1;have:=HG.out;have:=a0.lt;omega
 have m6:Hid (∀a,A'=some a->W.heap.size<=a.block/\a.block < w2.heap.size):=H_ (by
  obtain⟨P,c0,q1,q2,q3,q4⟩:=gz ho;injection q1 with q1 _ _;subst q1;exact fun a U=>⟨(q4 a U).1,(q4 a U).2.1⟩)
 have g7:Hid (M=(Tb.make l).length):=H_ (by
  have:=ho.1;rw[rq]at this;omega)
 have g8:=H_ (gz2 k2.at_);have p1:=H_ k1;clear k1 a0 f9 ho;go_wp2_with fail
 refine m_ g8 ?_
 rintro e w3 ⟨rfl,b0⟩;rw[<-HN.out];have k3:=k2.below b0;have d9:=g4.below b0;have g9:∀X',(∀g∈XY X' Y,g∈XY X Y\/w2.heap.size<=g)->J∉XY X' Y:=fun X' hf hm=>by
  have q1:=HG.out;have q2:=g4.now.1.lt
  rcases hf _ hm with q|q
  ·have:=HX.out _ q
   omega
  ·omega
 have b1:=H_ g9;clear g9;have E:=HR.out
 by_cases Z:1073741824 < n
 ·rw[if_pos Z]
  rw[if_pos Z]at E;have HZ:=H_ (H.out _ _ _ 65 k3 (b1.out X (fun g O=>.inl O)) o_ E);have C:=d9.now.1;have s0:=C.c0;have s1:=C.c1;have s2:=C.c2;have z0:=C.free 0;have z1:=C.free 1;have z2:=C.free 2;clear C;clear H I E;go_wp2;exact bodyPost_ret (v:=.tuple #[.agg #[.int .i64 0,.int .i64 0,.pointer none],.int .i64 (65:Int)]) (by simp[results,go_sem, *]) rfl HZ.out
 ·rw[if_neg Z]
  rw[if_neg Z]at E;have a5:=name_any (str Mn.kTab) (by rw[ny];decide) n o_ w3 k3.at_.dm.env;rw[oz]at a5;rw[show str Mn.kTab=({ data:=#[116,97,98] }:ByteArray) from rfl]at a5;obtain⟨nm,d5⟩:=n_ (Mn.name Mn.kTab n);rw[<-d5]at a5 E l5;have g':=H_ a5;have h6:=H_ E;clear a5 d5 E;go_wp2_with fail
  refine m_ g' ?_
  rintro e w4 ⟨rfl,b2⟩;have k4:=k3.below b2;have h7:=d9.below b2;have c0:=k4.at_.box.cell 0;simp only[Yw.cells,gE0,gE1]at c0;have a6:=(Acc.start (F:=[]) k4.at_.dm).create (str nm) (by rw[ny];unfold maxLen;omega) o_;rw[oz]at a6;obtain⟨a,U⟩:=n_ (S.create nm);have E:=h6.out;rw[<-U]at a6 E;obtain⟨S5,b3⟩:=a;simp only at a6 E;have h8:=H_ a6;have e0:=H_ E;have b5:=H_ (show w2.heap.size<=w4.heap.size from j_ b0.size b2.size);clear a6 E U h6 HR b0 b2 g8 g' k3 k2 d9;go_wp2_with fail
  refine m_ h8 ?_
  rintro e w5 ⟨rfl,Xq,hq⟩;obtain⟨X5,-,k5,e1,a7⟩:=k4.disk hq.updM;have b6:=h7.step e1 a7;have n3:J∉XY X5 Y:=b1.out X5 (fun g O=>(a7 g O).imp id (fun q=>j_ b5.out q))
  by_cases h':b3=0
  ·subst h'
   have E:=e0.out;rw[if_neg s_]at E;have c0:=k5.at_.box.cell 0;simp only[Yw.cells,gE0,gE1]at c0;have a8:=(Acc.start (F:=[]) k5.at_.dm).append (str nm) (by rw[ny];unfold maxLen;omega) A' M c' (Tb.make l) (by have:=g7.out;have:=g0.out.2;omega) b6.now.2 (fun a U hm=>by
    have q1:=m6.out a U;have q2:=HV.out;have q3:=l6;have q4:=HG.out
    rcases a7 _ (x_ _ hm) with q|q
    ·have:=HX.out _ q
     omega
    ·have:=b5.out
     omega)
   rw[oz]at a8;obtain⟨a,U⟩:=n_ (S5.append nm (Tb.make l));rw[<-U]at a8 E;obtain⟨S6,b7⟩:=a;simp only at a8 E;have i0:=H_ a8;have e2:=H_ E;have n4:=H_ (fun g O=>(a7 g O).imp id (fun q=>j_ b5.out q):∀g∈XY X5 Y,g∈XY X Y\/w2.heap.size<=g);have i1:=H_ (show w2.heap.size<=w5.heap.size from j_ b5.out e1.size);clear a8 E U e0 h8 hq e1 a7 k4 h7;go_wp2_with fail
   refine m_ i0 ?_
   rintro e w6 ⟨rfl,Xq,hq⟩;obtain⟨X6,-,k6,e3,e4⟩:=k5.disk hq.updM;have a9:=b6.step e3 e4;have i4:=H_ (fun g O=>(by
    rcases e4 g O with q|q
    ·exact n4.out g q
    ·exact .inr (j_ i1.out q)):∀g∈XY X6 Y,g∈XY X Y\/w2.heap.size<=g)
   have n6:J∉XY X6 Y:=b1.out X6 i4.out
   by_cases i5:b7=0
   ·subst i5
    have E:=e2.out;rw[if_neg s_]at E;have i6:=bx4 A' M c' (Tb.make l) w6 (by have:=g7.out;have:=g0.out.2;omega) m0 m1 a9.now.2;have i7:=H_ i6;have i8:=H_ E;have n7:=H_ (show w2.heap.size<=w6.heap.size from j_ i1.out e3.size);clear i6 E i0 e2 hq e3 e4 k5 b6 c0;go_wp2_with fail
    refine m_ i7 ?_
    rintro e w7 ⟨b8,(⟨i9,_⟩|⟨rs,b9,f,rfl,i'⟩)⟩
    ·rw[f'.out]at i9
     cases i9
    rw[f'.out]at b9;injection b9 with b9;subst b9;have k7:=k6.below b8;have j0:=a9.below b8;have d6:=k6.at_.lt;have d7:J < w6.heap.size:=a9.now.1.lt;have j1:∀W,Chg (List.range w6.heap.size) w7 W->TbAt W f (Tb.rows l):=fun W c=>i' W (mw3.bz6 c fun g O=>bw_.1 O);have b':=H_ (c_ d6 (c_ d7 (show w.heap.size<=w6.heap.size from k6.c.size)));have c0:=k7.at_.box.cell 0;simp only[Yw.cells,gE0,gE1]at c0;have a':=(Acc.start (F:=[]) k7.at_.dm).sync (str nm) (by rw[ny];unfold maxLen;omega);rw[oz]at a';obtain⟨a,U⟩:=n_ (S6.sync nm);have E:=i8.out;rw[<-U]at a' E;obtain⟨S8,j2⟩:=a;simp only at a' E;have j3:=H_ a';have j4:=H_ E;have j5:=H_ j1;have n8:=H_ (show w2.heap.size<=w7.heap.size from j_ n7.out b8.size);clear a' E U i8 i7 i' b8 k6 a9 d6 d7 j1;go_wp2_with fail
    refine m_ j3 ?_
    rintro e w8 ⟨rfl,Xq,hq⟩;obtain⟨X8,-,k8,e5,c9⟩:=k7.disk hq.updM;have j6:=j0.step e5 c9;have j7:J∉XY X8 Y:=b1.out X8 (fun g O=>by
     rcases c9 g O with q|q
     ·exact i4.out g q
     ·exact .inr (j_ n8.out q))
    have hz:=I.out w8 X8 S8 j2 f k8 j7 (fun G W hG cW=>j5.out W (((e5.mono fun g O=>.inl (bw_.2 (b'.out.1 g O))).trans (cg3 J w8 (.int .i64 lev) (.int .i64 n) (.pointer (some ⟨f,0,none⟩))) (fun g O=>.inl (by rw[a_.1 O];exact bw_.2 b'.out.2.1))).trans cW (fun g O=>by
     rcases hG g O with q|q
     ·exact(c9 g q).imp (fun q=>bw_.2 (b'.out.1 g q)) id
     ·exact .inl (bw_.2 (N_ q b'.out.2.2))))) j4.out
    have HZ:=H_ hz;have C:=j6.now.1;have s0:=C.c0;have s1:=C.c1;have s2:=C.c2;have z0:=C.free 0;have z1:=C.free 1;have z2:=C.free 2;clear C hz I H j7 e5 c9 k8 j6 j5 hq k7 j0 c0 j3 j4;go_wp2;exact bodyPost_ret (v:=.tuple #[hval lev n f,.int .i64 (j2:Int)]) (by simp[results,hval,go_sem, *]) rfl HZ.out
   ·have p8:((b7:Int)==0)=false:=by simp;omega
    have E:=e2.out;rw[if_pos i5]at E;have HZ:=H_ (H.out _ _ _ b7 k6 n6 (by assumption) E);have C:=a9.now.1;have s0:=C.c0;have s1:=C.c1;have s2:=C.c2;have z0:=C.free 0;have z1:=C.free 1;have z2:=C.free 2;clear C;clear H I E;go_wp2;exact bodyPost_ret (v:=.tuple #[.agg #[.int .i64 0,.int .i64 0,.pointer none],.int .i64 ((b7:Nat):Int)]) (by simp[results,go_sem, *]) rfl HZ.out
  ·have p9:((b3:Int)==0)=false:=by simp;omega
   have E:=e0.out;rw[if_pos h']at E;have HZ:=H_ (H.out _ _ _ b3 k5 n3 (by assumption) E);have C:=b6.now.1;have s0:=C.c0;have s1:=C.c1;have s2:=C.c2;have z0:=C.free 0;have z1:=C.free 1;have z2:=C.free 2;clear C;clear H I E;go_wp2;exact bodyPost_ret (v:=.tuple #[.agg #[.int .i64 0,.int .i64 0,.pointer none],.int .i64 ((b3:Nat):Int)]) (by simp[results,go_sem, *]) rfl HZ.out
def fy4 (X:Dw) (Y:Yw) (w w':World) (S':Sd) (V':Sv):Prop:=∃X' P',X'.d=X.d/\SvAt w' X' S' { Y with P:=P' } V'/\Chg (XY X Y) w w'/\(∀g∈XY X' Y,g∈XY X Y\/w.heap.size<=g)/\(P'=Y.P\/∀a,P'.a=some a->w.heap.size<=a.block)
theorem kz8 {P S a oi v} (h:Hv P S a oi v:=by intro w C;(have k1:=C.1.cell 1;have e0:=C.2.cell 0;have e1:=C.2.cell 1;have e2:=C.2.cell 2;have e3:=C.2.cell 3;have e4:=C.2.cell 4;have e5:=C.2.cell 5;have e6:=C.2.cell 6;simp only[Yw.cells,gE0,gE1]at k1 e0 e1 e2 e3 e4 e5 e6);go_simp;try (with_reducible rfl)):Hv P S a oi v:=h
theorem dz3 (h:SvAt w X S Y V) (x:Ed) (D:Option Addr) (dm dd:Nat) (A2:Option Addr) (Z c2:Nat) (d1:dm<=1000000) (d2:Z<=1000000) (b5:Row w.heap.size w D dm 1 (uw x.drop)) (b6:Row w.heap.size w A2 Z 2 (dw x.add)) (d3:V.M.v.files.length<=40)
  (d4:V.M.count<=1000000000) (d5:V.M.name.length<=1000):
  Calls prog 76 #[.pointer (some ⟨Y.s,0,none⟩),x.val D dm dd A2 Z c2] w fun e w'=>e=.returned (.int .i64 ((St.saved S V x).2.2:Int))/\fy4 X Y w w' (St.saved S V x).1 (St.saved S V x).2.1:=by
 have E:=b_ w (.cells #[.slice D dm dd,.slice A2 Z c2,.int .i64 x.log,.int .u64 (x.floor:Int),.int .u64 (x.cert:Int),.int .u64 (x.at_:Int),.int .u64 (x.lease:Int)] 131);have a0:=BoxO.new w #[.slice D dm dd,.slice A2 Z c2,.int .i64 x.log,.int .u64 (x.floor:Int),.int .u64 (x.cert:Int),.int .u64 (x.at_:Int),.int .u64 (x.lease:Int)] 131;have h1:=h.below (ak E);have O:=(b5.below (ak E)).up E.size;have Q:=(b6.below (ak E)).up E.size;have a7:∀g∈XY X Y,g < w.heap.size:=h.lt;obtain⟨W,hW⟩:=n_ (w.alloc (.cells #[.slice D dm dd,.slice A2 Z c2,.int .i64 x.log,.int .u64 (x.floor:Int),.int .u64 (x.cert:Int),.int .u64 (x.at_:Int),.int .u64 (x.lease:Int)] 131));obtain⟨ge,a8⟩:=n_ w.heap.size;rw[<-a8]at a0;rw[<-hW]at E a0 h1 O Q;have U:=vz4 x D dm dd A2 Z c2 d1 d2 O Q (by rw[h.plen];exact d3) d4 d5 h1.gst;obtain⟨R,hR⟩:=n_ (Gw.save S V.M x);have hT:St.saved S V x=(R.1,{ V with M:=R.2.1,only:=V.only||R.2.1.broken },R.2.2):=by rw[hR];rfl
 rw[<-hR]at U;rw[hT];obtain⟨S1,M1,er⟩:=R;show Calls prog 76 #[.pointer (some ⟨Y.s,0,none⟩),x.val D dm dd A2 Z c2] w fun e w'=>e=.returned (.int .i64 (er:Int))/\fy4 X Y w w' S1 { V with M:=M1,only:=V.only||M1.broken }
 unfold ix1 at U;simp only at U;have a6:Y.s∉[Y.m] ++X.foot/\ge∉[Y.m] ++X.foot:=⟨fun hm=>by
  rcases k_.1 hm with q|q
  ·exact h.apart.s (by rw[a_.1 q];exact i_)
  ·exact h.apart.x _ (Yw.aj.2 (.inl rfl)) q,fun hm=>by
  rcases k_.1 hm with q|q
  ·have:=a7 Y.m (p_ _ (Yw.aj.2 (.inr (.inl rfl))))
   have:=a_.1 q;omega
  ·have:=a7 _ (x_ _ q)
   omega⟩
 have HV:=H_ hW;have HG:=H_ a8;have a':=H_ U;have HO:=H_ a6;have H1:=H_ h1;have HB:=H_ (Chg.of_below (ak E) (XY X Y));have b0:Hid (BoxO W.drew 81 Y.s (Y.cells X.d V)/\BoxO W.drew 131 ge #[.slice D dm dd,.slice A2 Z c2,.int .i64 x.log,.int .u64 (x.floor:Int),.int .u64 (x.cert:Int),.int .u64 (x.at_:Int),.int .u64 (x.lease:Int)].toList):=H_ ⟨h1.box,a0⟩;clear U hW a8 h h1 b5 b6 O Q E a0 a6 a7 hR hT;unfold Ed.val at *;go_enter func76,ntmps76;go_wp2_with fail;rw[<-HV.out,<-HG.out];refine wp_region_held_drew (S:=fun w'=>BoxO w' 81 Y.s (Y.cells X.d V)/\BoxO w' 131 ge #[.slice D dm dd,.slice A2 Z c2,.int .i64 x.log,.int .u64 (x.floor:Int),.int .u64 (x.cert:Int),.int .u64 (x.at_:Int),.int .u64 (x.lease:Int)].toList) rfl b0.out (fun C=>?_);refine w_v 0 C ?_ (k:=kz8);go_simp;refine w_v 1 C ?_ (k:=kz8);go_simp;refine w_v 2 C ?_ (k:=kz8);go_simp;refine w_v 3 C ?_ (k:=kz8);go_simp;refine w_v 4 C ?_ (k:=kz8);go_simp;refine w_r 5 fun K hK=>?_;go_simp
 refine m_ a' ?_
 rintro e w3 ⟨rfl,P3,X3,h3,a1⟩;go_simp;refine hK.out _ _ ⟨C.1.chg h3.acc.c HO.out.1,C.2.chg h3.acc.c HO.out.2⟩ ?_;clear C hK K;intro C;go_simp;refine w_v 6 C ?_ (k:=kz8);go_simp;refine w_d ?_;obtain⟨hs,b1,b2⟩:=H1.out.ej6 h3 a1;have c1:=hs.box.cell 1;simp only[Yw.cells,gE0,gE1]at c1;have I:=bq3 X3.d hs.man;have b8:=h3.acc.e;have a2:=HB.out.trans b1 (fun g hg=>.inl hg);have a4:∀g∈XY X3 { Y with P:=P3 },g∈XY X Y\/w.heap.size<=g:=fun g hg=>(b2 g hg).imp id (fun q=>j_ HB.out.size q);have a5:P3=Y.P\/∀a,P3.a=some a->w.heap.size<=a.block:=a1.imp id (fun q a ha=>j_ HB.out.size (q a ha));have e9:=H_ a5
 cases J:M1.broken with
 |false=>
  rw[J]at I;have H:fy4 X Y w w3 S1 { V with M:=M1,only:=V.only||M1.broken }:=⟨X3,P3,b8,by rw[J,cn_];exact hs,a2,a4,a5⟩;have HF:=H_ H;clear J;have b3:=H_ I;clear I hs b1 b2 a1 C b0 a' H1 H a2 a4 a5 h3;go_wp2_with fail;refine b3.out.mono ?_;rintro e w4 ⟨rfl,rfl⟩;go_wp2;go_ret;exact⟨rfl,HF.out⟩
 |true=>
  rw[J]at I;have b9:=pk2 hs er;have b3:=H_ I;have b':=H_ b9;have f5:=H_ a2;have c9:=H_ a4;clear I hs b1 b2 a1 C b0 a' H1 b9 a2 a4 a5 h3;go_wp2_with fail;refine b3.out.mono ?_;rintro e w4 ⟨rfl,rfl⟩;go_wp2_with fail;refine b'.out.mono ?_;rintro e w5 ⟨rfl,h5,c'⟩;have H:fy4 X Y w w5 S1 { V with M:=M1,only:=V.only||M1.broken }:=⟨X3,P3,b8,by rw[J,Bool.or_true];exact h5,f5.out.trans c' c9.out,c9.out,e9.out⟩;have HF:=H_ H;clear H h5 c' b' J;go_wp2;go_ret;exact⟨rfl,HF.out⟩
def vw1 (B:Nat) (X:Dw) (Y:Yw) (w w1:World) (S1:Sd) (V1:Sv):Prop:=∃X1 Y1,X1.d=X.d/\Y1.s=Y.s/\SvAt w1 X1 S1 Y1 V1/\Chg (XY X Y) w w1/\∀g∈XY X1 Y1,g∈XY X Y\/B<=g
theorem aw1.toB {B:Nat} (h:aw1 X Y w w1 S V) (C:B<=w.heap.size):vw1 B X Y w w1 S V:=let ⟨X1,Y1,a,b,c,d,e⟩:=h;⟨X1,Y1,a,b,c,d,fun g E=>(e g E).imp id (j_ C)⟩
theorem vw1.trans {B:Nat} (H:X1.d=X.d) (I:Y1.s=Y.s) (c:Chg (XY X Y) w w1) (E:∀g∈XY X1 Y1,g∈XY X Y\/w.heap.size<=g) (J:B<=w.heap.size) (k:vw1 B X1 Y1 w1 w2 S2 V2):vw1 B X Y w w2 S2 V2:=by
 obtain⟨X2,Y2,O,Q,h,c2,C⟩:=k;refine⟨X2,Y2,O.trans H,Q.trans I,h,c.trans c2 E,fun g U=>?_⟩
 rcases C g U with h1|h1
 ·exact(E g h1).imp id (j_ J)
 ·exact .inr h1
def cj6 (B:Nat) (w:World) (X:Dw) (Y:Yw) (V:Sv) (K:Nat) (capt:Array Value) (F:Sv->Sv):Prop:=∀w1 X1 P1 S1 M1 b,X1.d=X.d->Chg (XY X Y) w w1->(∀g∈XY X1 Y,g∈XY X Y\/w.heap.size<=g)->(P1=Y.P\/∀a,P1.a=some a->w.heap.size<=a.block)->SvAt w1 X1 S1 { Y with P:=P1 } { V with M:=M1,only:=b }->
 Calls prog K capt w1 fun e w'=>e=.returned (.tuple #[])/\vw1 B X1 { Y with P:=P1 } w1 w' S1 (F { V with M:=M1,only:=b })
def my5 (w:World) (X:Dw) (Y:Yw) (V:Sv) (K:Nat) (capt:Array Value) (R:World->Dw->Sl->Sd->Gs->Bool->World->Prop):Prop:=∀w1 X1 P1 S1 M1 b,X1.d=X.d->Chg (XY X Y) w w1->(∀g∈XY X1 Y,g∈XY X Y\/w.heap.size<=g)->(P1=Y.P\/∀a,P1.a=some a->w.heap.size<=a.block)->SvAt w1 X1 S1 { Y with P:=P1 } { V with M:=M1,only:=b }->
 Calls prog K capt w1 fun e w'=>e=.returned (.tuple #[])/\R w1 X1 P1 S1 M1 b w'
def by2 (w:World) (X:Dw) (Y:Yw) (V:Sv) (F:Sv->Sv) (R:World->Dw->Sl->Sd->Gs->Bool->World->Prop) (T:Sd×Sv×Nat) (e:Ending) (w':World):Prop:=
 e=.returned (.int .i64 (T.2.2:Int))/\∃w1 X1 P1 S1 M1 b,X1.d=X.d/\Chg (XY X Y) w w1/\(∀g∈XY X1 Y,g∈XY X Y\/w.heap.size<=g)/\(P1=Y.P\/∀a,P1.a=some a->w.heap.size<=a.block)/\SvAt w1 X1 S1 { Y with P:=P1 } { V with M:=M1,only:=b }/\
  ((w'=w1/\T.1=S1/\T.2.1={ V with M:=M1,only:=b })\/(R w1 X1 P1 S1 M1 b w'/\T.1=S1/\T.2.1=F { V with M:=M1,only:=b }))
theorem bv3 (h:SvAt w X S Y V) (x:Ed) (D:Option Addr) (dm dd:Nat) (A2:Option Addr) (n2 c2:Nat) (g9:dm<=1000000) (g':n2<=1000000) (e9:Row w.heap.size w D dm 1 (uw x.drop)) (e':Row w.heap.size w A2 n2 2 (dw x.add)) (hD:∀a,D=some a->a.block∉XY X Y) (hA:∀a,A2=some a->a.block∉XY X Y) (h0:V.M.v.files.length<=40)
  (h6:V.M.count<=1000000000) (h7:V.M.name.length<=1000) (K:Nat) (b5:Array Value) (F:Sv->Sv) (hF:∀args w,(callFunc K args).run prog w=.ok (.enter K args) w) {R:World->Dw->Sl->Sd->Gs->Bool->World->Prop} (hK:my5 w X Y V K b5 R):
  Calls prog 64 #[.pointer (some ⟨Y.s,0,none⟩),x.val D dm dd A2 n2 c2,.func (.func K) #[] b5] w (by2 w X Y V F R (St.turn S V x F)):=by
 have J:=b_ w (.cells #[.slice D dm dd,.slice A2 n2 c2,.int .i64 x.log,.int .u64 (x.floor:Int),.int .u64 (x.cert:Int),.int .u64 (x.at_:Int),.int .u64 (x.lease:Int)] 131);have d4:=BoxO.new w #[.slice D dm dd,.slice A2 n2 c2,.int .i64 x.log,.int .u64 (x.floor:Int),.int .u64 (x.cert:Int),.int .u64 (x.at_:Int),.int .u64 (x.lease:Int)] 131;have h1:=h.below J;have b6:=(e9.below J).up J.size;have b7:=(e'.below J).up J.size;have f5:∀g∈XY X Y,g < w.heap.size:=h.lt;obtain⟨ge,d5⟩:=n_ w.heap.size;rw[<-d5]at d4;generalize hW:w.alloc (.cells #[.slice D dm dd,.slice A2 n2 c2,.int .i64 x.log,.int .u64 (x.floor:Int),.int .u64 (x.cert:Int),.int .u64 (x.at_:Int),.int .u64 (x.lease:Int)] 131)=W at *;have h8:ge∉XY X Y:=fun hm=>by have:=f5 _ hm;omega
 have a6:=(Acc.start (F:=[]) h1.dm).ax;have c0:=h1.box.cell 0;simp only[Yw.cells,gE0,gE1]at c0;obtain⟨Tr,hR⟩:=n_ (St.turn S V x F);unfold St.turn at hR;rw[<-show Tr=St.turn S V x F from hR];obtain⟨a,ha⟩:=n_ S.ax;rw[<-ha]at a6 hR;obtain⟨S1,Z⟩:=a;simp only at a6 hR;have HG:=H_ d5;have f6:=H_ a6;have HR:=H_ hR;have H1:=H_ h1;have HB:=H_ J;have f7:=H_ d4;have a0:=H_ (c_ b6 b7);have HK:=H_ hK;have HF:=H_ hF;have i0:=H_ (show Y.P.n=V.M.v.files.length from h.plen);clear a6 d5 h h1 e9 e' b6 b7 J d4 f5 hR ha hK hF;unfold Ed.val at *;go_enter func64,ntmps64;go_wp2_with fail;rw[<-HG.out];clear hW;refine f6.out.mono ?_;rintro e w1 ⟨rfl,X2,h2⟩;obtain⟨X1,e1,a1,H,d6⟩:=H1.out.disk h2.updM;have b9:Chg X.foot W w1:=by simpa using h2.c
 have O:=(Chg.of_below HB.out (XY X Y)).trans H (fun g hg=>.inl hg);have Q:∀g∈XY X1 Y,g∈XY X Y\/w.heap.size<=g:=fun g hg=>(d6 g hg).imp id (fun q=>j_ HB.out.size q);have i1:=H_ a1;have a7:=H_ O;have d8:=H_ Q;have j7:∀g,g∉XY X Y->g∉X.foot:=fun g hg hm=>hg (x_ _ hm)
 by_cases he:Z=0
 ·subst he
  have C:=f7.out.chg H h8;have y0:=C.c0;have y1:=C.c1;have y2:=C.c2;have y3:=C.c3;have y4:=C.c4;have y5:=C.c5;have y6:=C.c6;have b':=(kz H a0.out.1 l_ (fun j _ a ha=>hD a ha)).up H.size;have c9:=(kz H a0.out.2 l_ (fun j _ a ha=>hA a ha)).up H.size;have U:=dz3 a1 x D dm dd A2 n2 c2 g9 g' b' c9 h0 h6 h7;obtain⟨r,hr⟩:=n_ (St.saved S1 V x);have E:=HR.out;rw[if_neg s_]at E;rw[<-hr]at U E;have i4:∃S3 M3 b3 a2,r=(S3,{ V with M:=M3,only:=b3 },a2):=⟨_,_,_,_,hr⟩;obtain⟨S3,M3,b3,a2,rfl⟩:=i4;obtain⟨V3,d'⟩:∃V3:Sv,V3={ V with M:=M3,only:=b3 }:=⟨_,rfl⟩;simp only at U E;rw[<-d']at U E;have a8:=H_ d';unfold Ed.val at U;have f8:=H_ U;have a4:=H_ E;clear U hr d' E b' c9 C a0 f7 HR f6 a1 H d6 O Q b9 h2;go_wp2_with fail;refine f8.out.mono ?_;rintro e w3 ⟨rfl,X3,P3,e3,e0,g0,g1,g2⟩;have a9:=a7.out.trans g0 d8.out;have a':∀g∈XY X3 Y,g∈XY X Y\/w.heap.size<=g:=fun g hg=>by
   rcases g1 g hg with q|q
   ·exact d8.out g q
   ·exact .inr (j_ a7.out.size q)
  have b0:P3=Y.P\/∀a,P3.a=some a->w.heap.size<=a.block:=g2.imp id (fun q a ha=>j_ a7.out.size (q a ha));have I:=e0;rw[a8.out]at I;have g4:=HK.out w3 X3 P3 S3 M3 b3 (e3.trans e1) a9 a' b0 I;have g5:∀Z:Nat,by2 w X Y V F R (S3,V3,Z) (.returned (.int .i64 (Z:Int))) w3:=fun Z=>⟨rfl,w3,X3,P3,S3,M3,b3,e3.trans e1,a9,a',b0,I,.inl ⟨rfl,rfl,a8.out⟩⟩;have d1:∀(Z:Nat) w5,R w3 X3 P3 S3 M3 b3 w5->by2 w X Y V F R (S3,F V3,Z) (.returned (.int .i64 (Z:Int))) w5:=fun Z w5 k=>⟨rfl,w3,X3,P3,S3,M3,b3,e3.trans e1,a9,a',b0,I,.inr ⟨k,rfl,by rw[a8.out]⟩⟩;have e2:=e0.box.cell 10;simp only[Yw.cells,gE0,gE1]at e2;have g7:=H_ g4;have i6:=H_ g5;have d2:=H_ d1;clear g4 g5 d1 a9 a' e0 I b0 g2 g0 g1 f8 a7 d8 i1 y0 y1 y2 y3 y4 y5 y6
  by_cases b1:a2=0
  ·subst b1
   have a5:=H_ (a4.out.trans (if_pos (.inl rfl)));go_wp2_with fail;rw[HF.out,Oper.upon_enter];refine g7.out.mono ?_;rintro e w5 ⟨rfl,h5⟩;have H5:=H_ (d2.out 0 _ h5);clear h5;go_wp2;go_ret;rw[a5.out];exact H5.out
  ·have k4:((a2:Int)==0)=false:=by simp;omega
   have b2:b3=V3.only:=by rw[a8.out]
   cases ho:V3.only with
   |true=>
    rw[ho]at e2;have a5:=H_ (a4.out.trans (if_pos (.inr (b2.trans ho))));clear ho b1 b2;go_wp2_with fail;rw[HF.out,Oper.upon_enter];refine g7.out.mono ?_;rintro e w5 ⟨rfl,h5⟩;have H5:=H_ (d2.out a2 _ h5);clear h5;go_wp2;go_ret;rw[a5.out];exact H5.out
   |false=>
    rw[ho]at e2;have a5:=H_ (a4.out.trans (if_neg (by simp[b1,b2.trans ho])));clear ho b1 b2;go_wp2;go_ret;rw[a5.out];exact i6.out _
 ·have k5:((Z:Int)==0)=false:=by simp;omega
  have E:=HR.out;rw[if_pos he]at E;have a4:=H_ E;clear E he;have HU:Hid (by2 w X Y V F R (S1,V,Z) (.returned (.int .i64 (Z:Int))) w1):=H_ ⟨rfl,w1,X1,Y.P,S1,V.M,V.only,e1,O,Q,.inl rfl,a1,.inl ⟨rfl,rfl,rfl⟩⟩;clear a1 H d6 O Q b9 h2;go_wp2;go_ret;rw[a4.out];exact HU.out
theorem qq4 (h:SvAt w X S Y V) (x:Ed) (D:Option Addr) (dm dd:Nat) (A2:Option Addr) (E c2:Nat) (H:dm<=1000000) (I:E<=1000000) (J:Row w.heap.size w D dm 1 (uw x.drop)) (O:Row w.heap.size w A2 E 2 (dw x.add)) (hD:∀a,D=some a->a.block∉XY X Y) (hA:∀a,A2=some a->a.block∉XY X Y) (Q:V.M.v.files.length<=40)
  (U:V.M.count<=1000000000) (Z:V.M.name.length<=1000) (K:Nat) (C:Array Value) (F:Sv->Sv) (hF:∀args w,(callFunc K args).run prog w=.ok (.enter K args) w) {B:Nat} (hB:B<=w.heap.size) (hK:cj6 B w X Y V K C F):
  Calls prog 64 #[.pointer (some ⟨Y.s,0,none⟩),x.val D dm dd A2 E c2,.func (.func K) #[] C] w fun e w'=>e=.returned (.int .i64 ((St.turn S V x F).2.2:Int))/\vw1 B X Y w w' (St.turn S V x F).1 (St.turn S V x F).2.1:=by
 refine(bv3 h x D dm dd A2 E c2 H I J O hD hA Q U Z K C F hF hK).mono ?_;rintro e w' ⟨he,w1,X1,P1,S1,M1,b,e1,c1,f1,p1,h1,⟨rfl,q1,q2⟩|⟨k,q1,q2⟩⟩
 ·rw[q1,q2]
  exact⟨he,aw1.toB ⟨X1,{ Y with P:=P1 },e1,rfl,h1,c1,f1⟩ hB⟩
 ·rw[q1,q2]
  exact⟨he,vw1.trans (Y1:={ Y with P:=P1 }) e1 rfl c1 f1 hB k⟩
theorem SvAt.oj4 (h:SvAt w X S Y V) (e:X1.d=X.d) (hd:Dm w1 X1 S1) (c:Chg X.foot w w1) (J:∀g∈X1.foot,g∈X.foot\/w.heap.size<=g):SvAt w1 X1 S1 Y V/\Chg (XY X Y) w w1/\(∀g∈XY X1 Y,g∈XY X Y\/w.heap.size<=g):=by
 have I:∀g∈Y.foot,g∉X.foot:=h.apart.x;have E:Chg (XY X Y) w w1:=c.mono fun g C=>.inl (x_ _ C);have H:∀g∈XY X1 Y,g∈XY X Y\/w.heap.size<=g:=fun g C=>by
  rcases k_.1 C with h1|h1
  ·rcases J g h1 with h2|h2
   ·exact .inl (x_ _ h2)
   ·exact .inr h2
  ·exact .inl (p_ _ h1)
 refine⟨⟨hd,by rw[e];exact h.box.chg c (I _ (Yw.aj.2 (.inl rfl))),by rw[e];exact h.man.chg c (I _ (Yw.aj.2 (.inr (.inl rfl)))),h.row.step c J,h.pout,by rw[e];exact h.log.chg c (I _ (Yw.aj.2 (.inr (.inr (.inl rfl))))),h.mem.chg c (fun g C=>I g (Yw.aj.2 ?_)),h.its,h.tabs.step E H,h.st.step E H,⟨fun g C O=>?_,h.apart.s,h.apart.m,h.apart.g⟩,h.ng⟩,E,H⟩
 ·rcases f_.1 C with rfl|C
  ·exact .inr (.inr (.inr (.inl rfl)))
  ·exact .inr (.inr (.inr (.inr C)))
 ·rcases J g O with h1|h1
  ·exact I g C h1
  ·have:=h.ylt g C
   omega
theorem Way.oj4 {w0:World} {X0:Dw} (k:Way w0 X0 Y V w X S) (e:X1.d=X.d) (hd:Dm w1 X1 S1) (c:Chg X.foot w w1) (C:∀g∈X1.foot,g∈X.foot\/w.heap.size<=g):Way w0 X0 Y V w1 X1 S1/\Chg (XY X Y) w w1/\∀g∈XY X1 Y,g∈XY X Y\/w.heap.size<=g:=by
 obtain⟨h1,c1,f1⟩:=k.at_.oj4 e hd c C;refine⟨⟨h1,e.trans k.d,k.c.trans c1 k.f,fun g E=>?_⟩,c1,f1⟩
 rcases f1 g E with q|q
 ·exact k.f g q
 ·exact .inr (j_ k.c.size q)
def ov5 (X:Dw) (Y:Yw) (w:World) (V:Sv) (n:Int) (R:Sd×Nat) (e:Ending) (w':World):Prop:=∃(p:Option Addr) (n':Int) (X':Dw),e=.returned (.tuple #[.pointer p,.int .i64 n',.int .i64 (R.2:Int)])/\X'.d=X.d/\SvAt w' X' R.1 Y V/\Chg (XY X Y) w w'/\(∀g∈XY X' Y,g∈XY X Y\/w.heap.size<=g)/\
 (R.2=0->∃g,p=some ⟨g,0,none⟩/\n'=n/\LgAt w' g X.d (Mn.name Mn.kLog n) 0 0/\w.heap.size<=g/\g∉XY X' Y)
theorem kz32 {P S a oi v} (h:Hv P S a oi v:=by intro w C;(have k0:=C.cell 0;simp only[Yw.cells,gE0]at k0);go_simp;try (with_reducible rfl)):Hv P S a oi v:=h
theorem dz4 (h:SvAt w X S Y V) (i3:S.load<=1000000000000):
  Calls prog 63 #[.pointer (some ⟨Y.s,0,none⟩),.slice none 0 0] w (ov5 X Y w V (St.number S) (St.fresh S)):=by
 have a4:=h.ylt;obtain⟨n,hn⟩:=n_ (St.number S);have b':=oq1 S;have c9:(Mn.name Mn.kLog n).length<=1000:=ik1 _ _;obtain⟨R,O⟩:=n_ (St.fresh S);have d3:St.fresh S=R:=O.symm;rw[d3];unfold St.fresh at O;rw[<-hn]at O b' ⊢;have a0:=gz2 h;rw[<-hn]at a0;have k1:Way w X Y V w X S:=Way.start h;clear d3 hn
 by_cases a5:1073741824 < n
 ·rw[if_pos a5]at O a0
  have a2:=H_ a0;have HR:=H_ O;clear a0 O h;go_enter func63,ntmps63;go_wp2_with fail
  refine m_ a2 ?_
  rintro e w3 ⟨rfl,Q⟩;have k3:=k1.below Q;have HK:=H_ k3;clear k1 k3 Q;go_wp2;refine bodyPost_ret (v:=.tuple #[.pointer none,.int .i64 0,.int .i64 65]) (by simp[results,go_sem]) rfl ?_;rw[HR.out];exact⟨_,_,_,rfl,HK.out.d,HK.out.at_,HK.out.c,HK.out.f,fun h0=>by cases h0⟩
 rw[if_neg a5]at O a0;obtain⟨nm,b2⟩:=n_ (Mn.name Mn.kLog n);rw[<-b2]at O c9;replace O:R=if (S.create nm).2≠0 then S.create nm else (S.create nm).1.sync nm:=O
 have a6:∀W,Below w.heap.size w W->Calls prog 51 #[.string { data:=#[108,111,103] },.int .i64 n] W fun e w'=>e=.returned (.string (str nm))/\Below W.heap.size W w':=fun W hb=>by
  have:=name_any (str Mn.kLog) (by rw[ny];decide) n o_ W (k1.below hb).at_.dm.env;rw[oz,<-b2]at this;exact this
 have U:∀W,Below w.heap.size w W->Calls prog 111 #[.pointer (some ⟨X.d,0,none⟩),.string (str nm)] W (qy4 X W nm (S.create nm)):=fun W hb=>sk3 X S nm W c9 o_ (h.dm.below hb);obtain⟨a,ha⟩:=n_ (S.create nm);rw[<-ha]at O U;obtain⟨S5,b3⟩:=a;simp only at O;have a2:=H_ a0;have b5:=H_ a6;have HX:=H_ h.box;have i4:=H_ b';have HH:=H_ h;have d4:=H_ b2;clear a0 ha a6 a5 b' b2
 by_cases a8:b3=0
 ·subst a8
  rw[if_neg s_]at O;have E:∀W,Below w.heap.size w W->Calls prog 111 #[.pointer (some ⟨X.d,0,none⟩),.string (str nm)] W fun e w'=>∃g X',e=.returned (.tuple #[.pointer (some ⟨g,0,none⟩),.int .i64 0])/\X'.d=X.d/\Dm w' X' S5/\Chg X.foot W w'/\(∀g∈X'.foot,g∈X.foot\/W.heap.size<=g)/\LgAt w' g X.d nm 0 0/\W.heap.size<=g/\g∉X'.foot:=fun W hb=>(U W hb).mono fun e w' ⟨X',q1,q2,q3,q4,q5⟩=>by
   rcases q5 with ⟨q,_⟩|⟨_,g,q6,q7,q8,q9⟩
   ·exact absurd rfl q
   ·exact⟨g,X',q6,q1,q2,q3,q4,q7,q8,q9⟩
  have Z:=H_ E;have HR:=H_ O;clear U E O h;go_enter func63,ntmps63;go_wp2_with fail
  refine m_ a2 ?_
  rintro e w3 ⟨rfl,Q⟩;have H:=ak Q;go_wp2_with fail;refine wp_region_held_drew (S:=fun w'=>BoxO w' 81 Y.s (Y.cells X.d V)) rfl (HX.out.below H) (fun C=>?_);refine w_v 0 C ?_ (k:=kz32);go_simp;refine w_v 1 C ?_ (k:=kz32);go_simp;refine w_v 2 C ?_ (k:=kz32);go_simp;refine w_v 3 C ?_ (k:=kz32);go_simp;refine w_v 4 C ?_ (k:=kz32);go_simp;refine w_r 5 fun K hK=>?_;go_simp
  with_reducible refine(b5.out _ H).mono ?_
  rintro e w4 ⟨rfl,J⟩;go_simp;refine hK.out _ _ (C.below J) ?_;clear C hK K;intro C;go_simp;refine w_r 6 fun K hK=>?_;go_simp
  with_reducible refine(Z.out _ (az H J)).mono ?_
  rintro e w5 ⟨g,X5,rfl,e5,I,a1,a',b6,g6,b7⟩;go_simp;refine hK.out _ _ (C.chg a1 (HH.out.apart.x _ (Yw.aj.2 (.inl rfl)))) ?_;clear C hK K;intro C;go_simp;refine w_v 7 C ?_ (k:=kz32);go_simp;refine w_v 8 C ?_ (k:=kz32);go_simp;refine w_v 9 C ?_ (k:=kz32);go_simp;refine w_v 10 C ?_ (k:=kz32);go_simp;refine w_v 11 C ?_ (k:=kz32);go_simp;refine w_d ?_;have b0:=az H J;obtain⟨k5,d6,d7⟩:=(k1.below b0).oj4 e5 I a1 a';have d8:w.heap.size<=g:=j_ b0.size g6;have d9:g∉XY X5 Y:=fun hm=>by
   rcases k_.1 hm with q|q
   ·exact b7 q
   ·have:=a4 g q
    omega
  have d':=b6.lt;have b8:=ek2 X5 S5 g nm 0 0 w5 c9 I (by rw[e5];exact b6) b7;obtain⟨b,hb⟩:=n_ (S5.sync nm);rw[<-hb]at b8;have g8:Hid (R=b):=H_ (HR.out.trans hb.symm);obtain⟨S6,g9⟩:=b;simp only at b8;have e0:=H_ b8;have HL:=H_ b6;have g':=H_ k5;have HG:=H_ (c_ d8 (c_ d9 (c_ d' b7)));have HY:=H_ a4;clear b8 b6 k5 d8 d9 d' b7 hb d6 d7 a1 a' I e5 b0 J H Q C Z b5 HX HR a2 k1 a4 HH;go_wp2
  go_loopw [36] (fun i wr=>i=.int .i64 0/\wr=w5) (fun i _=>0)
  case atStart=>exact⟨rfl,rfl⟩
  case round=>
   obtain⟨rfl,rfl⟩:=hrel;go_wp2_with fail
   refine m_ e0 ?_
   rintro e w6 ⟨rfl,X6,e6,e1,d0,e2⟩;obtain⟨k6,e3,b9⟩:=g'.out.oj4 e6 e1 d0 e2;have e4:=HL.out.chg d0 HG.out.2.2.2;have e7:g∉XY X6 Y:=fun hm=>by
    rcases b9 g hm with q|q
    ·exact HG.out.2.1 q
    ·have:=HG.out.2.2.1
     omega
   have HZ:=H_ (c_ k6 (c_ e4 e7));clear k6 e4 e7 d0 e2 e1 e6 e3 b9 e0;go_wp2;refine bodyPost_ret (v:=.tuple #[.pointer (some ⟨g,0,none⟩),.int .i64 n,.int .i64 (g9:Int)]) (by simp[results,go_sem]) rfl ?_;rw[g8.out];exact⟨_,_,X6,rfl,HZ.out.1.d,HZ.out.1.at_,HZ.out.1.c,HZ.out.1.f,fun _=>⟨g,rfl,rfl,by rw[<-d4.out];exact HZ.out.2.1,HG.out.1,HZ.out.2.2⟩⟩
 ·rw[if_pos a8]at O
  have E:∀W,Below w.heap.size w W->Calls prog 111 #[.pointer (some ⟨X.d,0,none⟩),.string (str nm)] W fun e w'=>∃X',e=.returned (.tuple #[.pointer none,.int .i64 (b3:Int)])/\X'.d=X.d/\Dm w' X' S5/\Chg X.foot W w'/\(∀g∈X'.foot,g∈X.foot\/W.heap.size<=g):=fun W hb=>(U W hb).mono fun e w' ⟨X',q1,q2,q3,q4,q5⟩=>by
   rcases q5 with ⟨_,q⟩|⟨q,_⟩
   ·exact⟨X',q,q1,q2,q3,q4⟩
   ·exact absurd q a8
  have Z:=H_ E;have HR:=H_ O;clear U E O h;go_enter func63,ntmps63;go_wp2_with fail
  refine m_ a2 ?_
  rintro e w3 ⟨rfl,Q⟩;have H:=ak Q;go_wp2_with fail;refine wp_region_held_drew (S:=fun w'=>BoxO w' 81 Y.s (Y.cells X.d V)) rfl (HX.out.below H) (fun C=>?_);refine w_v 0 C ?_ (k:=kz32);go_simp;refine w_v 1 C ?_ (k:=kz32);go_simp;refine w_v 2 C ?_ (k:=kz32);go_simp;refine w_v 3 C ?_ (k:=kz32);go_simp;refine w_v 4 C ?_ (k:=kz32);go_simp;refine w_r 5 fun K hK=>?_;go_simp
  with_reducible refine(b5.out _ H).mono ?_
  rintro e w4 ⟨rfl,J⟩;go_simp;refine hK.out _ _ (C.below J) ?_;clear C hK K;intro C;go_simp;refine w_r 6 fun K hK=>?_;go_simp
  with_reducible refine(Z.out _ (az H J)).mono ?_
  rintro e w5 ⟨X5,rfl,e5,I,a1,a'⟩;go_simp;refine hK.out _ _ (C.chg a1 (HH.out.apart.x _ (Yw.aj.2 (.inl rfl)))) ?_;clear C hK K;intro C;go_simp;refine w_v 7 C ?_ (k:=kz32);go_simp;refine w_v 8 C ?_ (k:=kz32);go_simp;refine w_v 9 C ?_ (k:=kz32);go_simp;refine w_v 10 C ?_ (k:=kz32);go_simp;refine w_v 11 C ?_ (k:=kz32);go_simp;refine w_d ?_;obtain⟨k5,_,_⟩:=(k1.below (az H J)).oj4 e5 I a1 a';have i':((b3:Int)==0)=false:=by simp;omega
  have HZ:=H_ k5;have HE:=H_ a8;clear k5 a1 a' I e5 J H Q C Z b5 HX a2 k1 HH a8;go_wp2;refine bodyPost_ret (v:=.tuple #[.pointer none,.int .i64 0,.int .i64 (b3:Int)]) (by simp[results,go_sem]) rfl ?_;rw[HR.out];exact⟨_,_,_,rfl,HZ.out.d,HZ.out.at_,HZ.out.c,HZ.out.f,fun h0=>absurd h0 HE.out⟩
theorem dq2:(prog.info? 92).map (fun i=>(i.zero,i.size,i.bytes))=some (some (.agg #[.int .i64 0,.int .i64 0,.pointer none]),3,24):=by kernel_rfl
theorem xv1 (q:List Tq):∀u∈hcells q,u.oneCell'=true:=by
 intro u C;simp only[hcells,ac_,f_,aL_,or_false]at C;obtain⟨a,_,rfl|rfl|rfl⟩:=C<;>rfl
theorem xy1 (A:Option Addr) (n c:Nat) (q:List Tq) (w:World) (hn:n<=1000000) (h0:A=none->n=0/\c=0) (O:Row w.heap.size w A n 3 (hcells q)):
  Calls prog 28 #[.slice A n c] w fun e w'=>∃A' c',e=.returned (.slice A' n c')/\w'.ownsRow w.heap.size 92 3 (.slice A' n c') n (hcells q)/\Below w.heap.size w w':=by
 obtain⟨i0,Q,U,Z,a0⟩:=info_parts dq2;have HR:=H_ O;have C:=O.len;clear O
 cases A with
 |none=>
  obtain⟨rfl,rfl⟩:=h0 rfl;rw[tq]at C;have hq:q=[]:=ag_.1 o_;subst hq;clear HR C;have H:∀W,(binOp .eql 64 (.slice none 0 0) (.slice none 0 0)).run prog W=.ok (.bool true) W:=fun W=>by kernel_rfl
  go_enter func28,ntmps28;go_wp2;go_ret;exact⟨none,0,rfl,E_ _ _ _ _,Below.refl _ _⟩
 |some p=>
  clear C h0;go_enter func28,ntmps28;have I:(w.alloc (.cells #[] 92)).ownsRow w.heap.size 92 3 (.slice (some ⟨w.heap.size,0,none⟩) 0 0) 0 []:=⟨rfl,.inr ⟨w.heap.size,0,#[],rfl,y_ _,heap_alloc_new w _,y_ _,by decide,rfl,rfl⟩⟩;have E:=b_ w (.cells #[] 92);have HO:=H_ I;have HB:=H_ E;have J:=H_ (HR.out.below E);clear I E;have H:∀W,(binOp .eql 64 (.slice (some p) n c) (.slice none 0 0)).run prog W=.ok (.bool false) W:=fun W=>Lib.run_eql_slice_some_nil (e:=92) W _ _ _ (by kernel_rfl);go_wp2_with (at_builtin;refine iy ?_);refine bz (iq rfl (.tmp 5) (.tmp 6) _ rfl w.heap.size 92 i0 _ 3 24 underlying64 Q U Z a0 rfl o_ w HB.out HB.out.size _ 0 [] rfl HO.out w.heap.size _ n c (hcells q) rfl J.out (xv1 q) n _ (an_ n) (C_ _) (by unfold maxLen;omega) o_ ?_);intro A3 c3 w3 z1 z2 z3 z4 z5;have HF:=H_ z1;clear z1 z3 HO HB J;go_wp2;go_ret;exact⟨A3,c3,rfl,HF.out,z2⟩
theorem kz21 {P S a oi v} (h:Hv P S a oi v:=by intro w C;(have k0:=C.1.c0;have k1:=C.2.1.c0;have k2:=C.2.2.c0);go_simp;try (with_reducible rfl)):Hv P S a oi v:=h
theorem lw3 {w0:World} {X0:Dw} {S0:Sd} {P1:Sl} {M1:Gs} {b1:Bool} (h0:SvAt w0 X0 S0 Y V) (hc:Chg (XY X0 Y) w0 w1) (hf:∀g∈XY X1 Y,g∈XY X0 Y\/w0.heap.size<=g) (h:SvAt w1 X1 S1 { Y with P:=P1 } { V with M:=M1,only:=b1 })
  (gt gg gs H:Nat) (T:Sl) (q:List Tq) (n:Int) (ts:List ((Int×Int)×List (List It))) (bt:BoxO w1 64 gt [.slice T.a T.n T.c]) (bg:BoxO w1 62 gg [.pointer (some ⟨H,0,none⟩)]) (bs:BoxO w1 37 gs [.pointer (some ⟨Y.s,0,none⟩)])
  (b':gt≠Y.s) (c9:gg≠Y.s) (c':gs≠Y.s) (hl:LgAt w1 H X1.d (Mn.name Mn.kLog n) 0 0) (d0:w0.heap.size<=H) (U:H∉XY X1 Y) (hP:P1=Y.P\/∀a,P1.a=some a->H < a.block) (ht:vz (H::XY X1 Y) w1 fun w=>fy1 w T q ts):
  Calls prog 65 #[.pointer (some ⟨gt,0,none⟩),.pointer (some ⟨gg,0,none⟩),.pointer (some ⟨gs,0,none⟩)] w1 fun e w'=>e=.returned (.tuple #[])/\vw1 w0.heap.size X1 { Y with P:=P1 } w1 w' S1 (St.turned n ts { V with M:=M1,only:=b1 }):=by
 have a5:=h.lt;have a0:∀g∈Y.foot,g∉X1.foot:=h.apart.x;have b6:Y.s∉Y.m::Y.g::Y.mm::skF Y.L Y.ns:=h.apart.s;have e2:Y.m∉Y.g::Y.mm::skF Y.L Y.ns:=h.apart.m;have O:Y.s∈Y.foot:=Yw.aj.2 (.inl rfl);have a6:Y.m∈Y.foot:=Yw.aj.2 (.inr (.inl rfl));have e3:=hl.lt;have b3:∀(mm L:Nat) (ns:List Nd) (w':World),Chg [Y.s] w1 w'->BoxO w' 81 Y.s ({ Y with P:=P1,g:=H,mm:=mm,L:=L,ns:=ns,T:=T,q:=q }.cells X1.d { V with M:=M1,only:=b1 })->MmAt w' mm L ns->its ns=[]->(∀g∈mm::skF L ns,w1.heap.size<=g)->vw1 w0.heap.size X1 { Y with P:=P1 } w1 w' S1 (St.turned n ts { V with M:=M1,only:=b1 }):=by
  intro mm L ns w' c e4 a7 Q E;have c2:Chg (XY X1 Y) w1 w':=c.mono fun g I=>.inl (by rw[a_.1 I];exact p_ _ O);have a1:∀g∈XY X1 { Y with P:=P1,g:=H,mm:=mm,L:=L,ns:=ns,T:=T,q:=q },g=H\/g∈XY X1 Y\/w1.heap.size<=g:=fun g I=>by
   rcases k_.1 I with q|q
   ·exact .inr (.inl (x_ _ q))
   ·rcases Yw.aj.1 q with q|q|q|q|q
    ·exact .inr (.inl (p_ _ (Yw.aj.2 (.inl q))))
    ·exact .inr (.inl (p_ _ (Yw.aj.2 (.inr (.inl q)))))
    ·exact .inl q
    ·exact .inr (.inr (E g (by rw[show g=mm from q];exact i_)))
    ·exact .inr (.inr (E g (e_ _ q)))
  have g2:Y.s < w1.heap.size:=a5 _ (p_ _ O);have g4:Y.m < w1.heap.size:=a5 _ (p_ _ a6);have e5:H∉mm::skF L ns:=fun J=>by have:=E H J;omega
  refine⟨X1,{ Y with P:=P1,g:=H,mm:=mm,L:=L,ns:=ns,T:=T,q:=q },rfl,rfl,⟨h.dm.chg c (fun g I=>by rw[a_.1 I];exact⟨a0 _ O,h.ng _ O⟩),e4,h.man.chg c (fun J=>b6 (by rw[<-a_.1 J];exact i_)),?_,?_,hl.chg c (fun J=>U (by rw[a_.1 J];exact p_ _ O)),a7,Q,ht.step (c.mono fun g I=>.inl (by rw[a_.1 I];exact e_ _ (p_ _ O))) (fun g I=>?_),h0.st.step (hc.trans c2 hf) (fun g I=>?_),⟨?_,?_,?_,e5⟩,?_⟩,c2,fun g I=>?_⟩
  ·exact⟨(kz c h.row.row l_ (fun j hj a ha J=>h.pout j hj a ha (by rw[a_.1 J];exact O))).up c.size,h.row.nc,h.row.cm,h.row.nb,h.row.away⟩
  ·intro j hj a ha J
   have hp:=h.pout j hj a ha;obtain⟨a',e,q1,_⟩:=h.row.row.cell j hj;rw[ha]at e;injection e with e;subst e
   rcases Yw.aj.1 J with q|q|q|q|q
   ·exact hp (Yw.aj.2 (.inl q))
   ·exact hp (Yw.aj.2 (.inr (.inl q)))
   ·have q2:a.block=H:=q
    rcases hP with rfl|hP
    ·obtain⟨a',e,q3,_⟩:=h0.row.row.cell j (by
      have l1:=h.row.row.len;have l2:=h0.row.row.len;rw[l2,<-l1];exact hj)
     rw[ha]at e;injection e with e;subst e;omega
    ·have:=hP a ha
     omega
   ·have:=E _ (show a.block∈mm::skF L ns by rw[show a.block=mm from q];exact i_)
    omega
   ·have:=E _ (e_ mm q)
    omega
  ·rcases a1 g I with q|q|q
   ·exact .inl (by rw[q];exact i_)
   ·exact .inl (e_ _ q)
   ·exact .inr q
  ·rcases a1 g I with q|q|q
   ·exact .inr (by rw[q];exact d0)
   ·exact hf g q
   ·exact .inr (j_ hc.size q)
  ·intro g I J
   have g8:=a5 g (x_ _ J)
   rcases a1 g (p_ _ I) with q|q|q
   ·exact U (x_ _ (by rw[<-q];exact J))
   ·rcases k_.1 q with q2|q2
    ·rcases Yw.aj.1 I with q|q|q|q|q
     ·exact a0 _ O (by rw[<-show g=Y.s from q];exact J)
     ·exact a0 _ a6 (by rw[<-show g=Y.m from q];exact J)
     ·exact U (x_ _ (by rw[<-show g=H from q];exact J))
     ·have:=E g (by rw[show g=mm from q];exact i_)
      omega
     ·have:=E g (e_ _ q)
      omega
    ·exact a0 g q2 J
   ·omega
  ·intro J
   rcases f_.1 J with q|q
   ·exact b6 (by rw[show Y.s=Y.m from q];exact i_)
   ·rcases f_.1 q with q|q
    ·exact U (by rw[<-show Y.s=H from q];exact p_ _ O)
    ·have:=E Y.s q
     omega
  ·intro J
   rcases f_.1 J with q|q
   ·exact U (by rw[<-show Y.m=H from q];exact p_ _ a6)
   ·have:=E Y.m q
    omega
  ·intro g I
   have hb:=h.dm.env.base;have g9:=h0.dm.env.base
   rcases a1 g (p_ _ I) with q|q|q
   ·omega
   ·rcases k_.1 q with q2|q2
    ·exact h.dm.base g q2
    ·exact h.ng g q2
   ·omega
  ·rcases a1 g I with q|q|q
   ·exact .inr o_
   ·exact .inl q
   ·exact .inr (j_ hc.size q)
 have d1:=zx2 w1.drew;have HF:=H_ b3;have d2:=H_ d1;have HB:=H_ h.box;have HN:=H_ (c_ b' (c_ c9 c'));have d3:Hid (BoxO w1.drew 64 gt [.slice T.a T.n T.c]/\BoxO w1.drew 62 gg [.pointer (some ⟨H,0,none⟩)]/\BoxO w1.drew 37 gs [.pointer (some ⟨Y.s,0,none⟩)]):=H_ ⟨bt,bg,bs⟩;clear b3 d1 h bt bg bs b' c9 c' h0 hc hf a5 a0 b6 e2 O a6 e3 hl d0 U hP ht;have d4:∀(W:World) (j:Nat) (u:Value),(BoxO W 64 gt [.slice T.a T.n T.c]/\BoxO W 62 gg [.pointer (some ⟨H,0,none⟩)]/\BoxO W 37 gs [.pointer (some ⟨Y.s,0,none⟩)])->(BoxO (W.setCell ⟨Y.s,j,none⟩ u) 64 gt [.slice T.a T.n T.c]/\BoxO (W.setCell ⟨Y.s,j,none⟩ u) 62 gg [.pointer (some ⟨H,0,none⟩)]/\BoxO (W.setCell ⟨Y.s,j,none⟩ u) 37 gs [.pointer (some ⟨Y.s,0,none⟩)]):=fun W j u ⟨a,b,c⟩=>by
  have k:Chg [Y.s] W (W.setCell ⟨Y.s,j,none⟩ u):=(Chg.refl _ _).setCell _ (.inl s_);exact⟨a.chg k (by simpa using HN.out.1),b.chg k (by simpa using HN.out.2.1),c.chg k (by simpa using HN.out.2.2)⟩
 have a8:=H_ d4;clear d4;go_enter func65,ntmps65;go_wp2_with fail;refine wp_region_held_drew (S:=fun w'=>BoxO w' 64 gt [.slice T.a T.n T.c]/\BoxO w' 62 gg [.pointer (some ⟨H,0,none⟩)]/\BoxO w' 37 gs [.pointer (some ⟨Y.s,0,none⟩)]) rfl d3.out (fun C=>?_);refine w_v 0 C ?_ (k:=kz21);go_simp;refine w_v 1 C ?_ (k:=kz21);go_simp;refine w_v 2 C ?_ (k:=kz21);go_simp;refine w_v 3 C ?_ (k:=kz21);go_simp;refine w_v 4 C ?_ (k:=kz21);go_simp;refine w_r 5 fun K hK=>?_;go_simp
 refine m_ d2 ?_
 rintro e w3 ⟨mm,L,ns,rfl,a7,Q,Z,E⟩;go_simp;refine hK.out _ _ ⟨C.1.below Z,C.2.1.below Z,C.2.2.below Z⟩ ?_;clear C hK K;intro C;go_simp;refine w_v 6 C ?_ (k:=kz21);go_simp;refine w_v 7 C ?_ (k:=kz21);go_simp;refine w_r 8 fun K hK=>?_
 (have hB:=BoxO.below (show BoxO w1.drew _ _ _ from HB.out) Z;have qq:=hB.cell 4;have z:=hB.free 4;simp only[Yw.cells,gE0,gE1]at qq)
 go_simp;refine hK.out _ _ (a8.out _ _ _ C) ?_;clear C hK K;intro C;go_simp;refine w_v 9 C ?_ (k:=kz21);go_simp;refine w_v 10 C ?_ (k:=kz21);go_simp;refine w_r 11 fun K hK=>?_
 (have a9:=hB.store 4 (.slice T.a T.n T.c);have q2:=a9.cell 2;have z2:=a9.free 2;simp only[Yw.cells,List.set,gE0,gE1]at q2)
 go_simp;refine hK.out _ _ (a8.out _ _ _ C) ?_;clear C hK K;intro C;go_simp;refine w_v 12 C ?_ (k:=kz21);go_simp;refine w_v 13 C ?_ (k:=kz21);go_simp;refine w_r 14 fun K hK=>?_
 (have b0:=a9.store 2 (.pointer (some ⟨H,0,none⟩));have q3:=b0.cell 3;have z3:=b0.free 3;simp only[Yw.cells,List.set,gE0,gE1]at q3)
 go_simp;refine hK.out _ _ (a8.out _ _ _ C) ?_;clear C hK K;intro C;go_simp;refine w_d ?_;have d5:=b0.store 3 (.pointer (some ⟨mm,0,none⟩));have b7:Chg [Y.s] w3 (((w3.setCell ⟨Y.s,4,none⟩ (.slice T.a T.n T.c)).setCell ⟨Y.s,2,none⟩ (.pointer (some ⟨H,0,none⟩))).setCell ⟨Y.s,3,none⟩ (.pointer (some ⟨mm,0,none⟩))):=(((Chg.refl [Y.s] w3).setCell _ (.inl s_)).setCell _ (.inl s_)).setCell _ (.inl s_);have e9:Y.s < w1.heap.size:=BoxO.lt HB.out;have hz:=HF.out mm L ns _ ((Chg.of_below (ak b0_|>.trans Z) [Y.s]).trans b7 (fun g I=>.inl I)) d5 (a7.chg b7 (fun g I J=>by
  have q1:=E g I;have q2:=a_.1 J;have q3:w1.drew.heap.size=w1.heap.size:=rfl;omega)) Q E
 have HZ:=H_ hz;clear hz hB a9 b0 d5 qq q2 q3 z z2 z3 b7 a7 Q E C HF d2 a8 d3 Z e9;go_wp2;exact bodyPost_end (v:=.tuple #[]) (by simp[results,go_sem]) rfl ⟨rfl,HZ.out⟩
end
theorem rz3:(prog.info? 26).map (fun i=>(i.zero,i.size,i.bytes))=some (some (.slice none 0 0),1,24):=by kernel_rfl
theorem cq4 (A:Option Addr) (n c:Nat) (vs:List Value) (w:World) (hn:n<=1000000) (h0:A=none->n=0/\c=0) (h1:∀u∈vs,u.oneCell'=true) (O:Row w.heap.size w A n 1 vs):
  Calls prog 97 #[.slice A n c] w fun e w'=>∃A' c',e=.returned (.slice A' n c')/\w'.ownsRow w.heap.size 26 1 (.slice A' n c') n vs/\Below w.heap.size w w':=by
 obtain⟨i0,Q,U,Z,a0⟩:=info_parts rz3;have HR:=H_ O;have H1:=H_ h1;have C:=O.len;clear O h1
 cases A with
 |none=>
  obtain⟨rfl,rfl⟩:=h0 rfl;have hq:vs=[]:=ag_.1 o_;subst hq;clear HR C;have H:∀W,(binOp .eql 98 (.slice none 0 0) (.slice none 0 0)).run prog W=.ok (.bool true) W:=fun W=>by kernel_rfl
  go_enter func97,ntmps97;go_wp2;go_ret;exact⟨none,0,rfl,E_ _ _ _ _,Below.refl _ _⟩
 |some p=>
  clear C h0;go_enter func97,ntmps97;have I:(w.alloc (.cells #[] 26)).ownsRow w.heap.size 26 1 (.slice (some ⟨w.heap.size,0,none⟩) 0 0) 0 []:=⟨rfl,.inr ⟨w.heap.size,0,#[],rfl,y_ _,heap_alloc_new w _,y_ _,by decide,rfl,rfl⟩⟩;have E:=b_ w (.cells #[] 26);have HO:=H_ I;have HB:=H_ E;have J:=H_ (HR.out.below E);clear I E;have H:∀W,(binOp .eql 98 (.slice (some p) n c) (.slice none 0 0)).run prog W=.ok (.bool false) W:=fun W=>Lib.run_eql_slice_some_nil (e:=26) W _ _ _ (by kernel_rfl);go_wp2_with (at_builtin;refine iy ?_);refine bz (iq rfl (.tmp 5) (.tmp 6) _ rfl w.heap.size 26 i0 _ 1 24 underlying98 Q U Z a0 rfl o_ w HB.out HB.out.size _ 0 [] rfl HO.out w.heap.size _ n c vs rfl J.out H1.out n _ (an_ n) (C_ _) (by unfold maxLen;omega) o_ ?_);intro A3 c3 w3 z1 z2 z3 z4 z5;have HF:=H_ z1;clear z1 z3 HO HB J;go_wp2;go_ret;exact⟨A3,c3,rfl,HF.out,z2⟩
theorem mw1 (b:Addr):b.add (0 *5)=b:=by cases b;simp[Addr.add]
def RIn (B:Nat) (w:World) (vs:List Value) (ls:List (List It)):Prop:=ls.length=vs.length/\∀i (h:i < ls.length),∃A k c,vs[i]?=some (.slice A k c)/\k<=c/\c<=maxLen/\Row B w A k 5 (itc ls[i])
def vy5:Option Value->Nat
 |some (.slice _ k _)=>k
 |_=>0
def leftOf (A:Option Addr) (n:Nat) (W:World):Nat:=match A with
 |none=>0
 |some a=>((List.range n).map fun i=>vy5 (W.cell? (a.add i))).sum
theorem oz1 {B B' n:Nat} {w W:World} {A:Option Addr} {vs:List Value} {ls:List (List It)} (h:Row B W A n 1 vs) (hi:RIn B' w vs ls):leftOf A n W=Mg.tot ls:=by
 have Q:vs.length=n:=by have:=h.len;omega
 have I:=hi.1
 cases A with
 |none=>
  have C:n=0:=by
   rcases ao_ n with C|C
   ·exact C
   ·obtain⟨a,v,e,_⟩:=h.at1 C
    cases e
  have:ls=[]:=ag_.1 o_;subst this;rfl
 |some a=>
  have e:(List.range n).map (fun i=>vy5 (W.cell? (a.add i)))=ls.map List.length:=by
   refine cp_ (by simp;omega) fun i h1 h2=>?_;simp only[co_,List.getElem_range];have H:i < n:=by simpa using h1
   obtain⟨U,v,e,_,E,J⟩:=h.at1 H;injection e with e;subst e;obtain⟨A,k,c,O,_,_,hrow⟩:=hi.2 i o_;rw[O]at E;injection E with E;subst E;rw[J];exact hrow.qj.symm
  show ((List.range n).map fun i=>vy5 (W.cell? (a.add i))).sum=_
  rw[e];rfl
theorem RIn.set {B:Nat} {w:World} {vs:List Value} {ls:List (List It)} (h:RIn B w vs ls) {j k c:Nat} {A:Option Addr} {r:List It} (C:k<=c) (E:c<=maxLen) (H:Row B w A k 5 (itc r)):RIn B w (vs.set j (.slice A k c)) (ls.set j r):=by
 refine⟨by simp[h.1],fun i hi=>?_⟩;simp only[aE_]at hi;have hl:=h.1
 by_cases e:j=i
 ·subst e
  refine⟨A,k,c,?_,C,E,?_⟩
  ·rw[bx_ o_]
  ·rw[List.getElem_set_self];exact H
 ·obtain⟨A',I,J,O,Q,U,Z⟩:=h.2 i hi
  refine⟨A',I,J,?_,Q,U,?_⟩
  ·rw[bF_ e];exact O
  ·rw[List.getElem_set_ne e];exact Z
structure MI (w wr:World) (A:Option Addr) (n c:Nat) (vs:List Value) (ls:List (List It)) (A2:Option Addr) (q c2:Nat) (out:List It):Prop where
 own:wr.ownsRow w.heap.size 26 1 (.slice A n c) n vs
 inn:RIn w.heap.size w vs ls
 ow2:wr.ownsRow w.heap.size 49 5 (.slice A2 q c2) q (itc out)
 bl:Below w.heap.size w wr
 len:q=out.length
theorem MI.ln {w wr:World} {A A2:Option Addr} {n c q c2:Nat} {vs:List Value} {ls:List (List It)} {out:List It} (h:MI w wr A n c vs ls A2 q c2 out):ls.length=n:=by
 have:=h.own.1;have:=h.inn.1;omega
theorem MI.row {w wr:World} {A A2:Option Addr} {n c q c2:Nat} {vs:List Value} {ls:List (List It)} {out:List It} (h:MI w wr A n c vs ls A2 q c2 out) {i:Nat} (hi:i < n):
  ∃g B k d,A=some ⟨g,0,none⟩/\w.heap.size<=g/\g < wr.heap.size/\wr.cell? ⟨g,i,none⟩=some (.slice B k d)/\k<=d/\d<=maxLen/\k=(ls.getD i []).length/\Row w.heap.size w B k 5 (itc (ls.getD i []))/\i < c/\c<=maxLen:=by
 cases A with
 |none=>have:=(iy5 h.own).1;omega
 |some a=>
  obtain⟨g,cur,e,O,C,Q,U,E,H⟩:=fk1 h.own;subst e;have Z:=h.ln;obtain⟨B,k,d,e1,e2,e3,I⟩:=h.inn.2 i o_;have J:ls.getD i []=ls[i]'o_:=by rw[B_,h_ o_];rfl
  refine⟨g,B,k,d,rfl,O,C.lt,?_,e2,e3,?_,?_,o_,E⟩
  ·rw[C.cell,<-e1,<-H,a1_,if_pos o_]
  ·rw[J];exact I.qj.symm
  ·rw[J];exact I
theorem jw2 {w:World} {g:Nat} {xs E:List Value} (h:BoxO w 26 g xs) (k:BoxO w 49 g E):False:=by
 have H:w.heap[g]?=some (.cells xs.toArray 26 (0,0)):=h;have C:w.heap[g]?=some (.cells E.toArray 49 (0,0)):=k;rw[H]at C;injection C with C;injection C with _ C _;exact absurd C (by decide)
theorem MI.apart {w wr:World} {A2:Option Addr} {n c q c2 g:Nat} {vs:List Value} {ls:List (List It)} {out:List It} (h:MI w wr (some ⟨g,0,none⟩) n c vs ls A2 q c2 out):∀E,(Value.slice A2 q c2).ownBlock=some E->E≠g:=by
 intro E C e;subst e;obtain⟨U,cur,H,_,I,_⟩:=fk1 h.own;injection H with H;subst H
 cases A2 with
 |none=>cases C
 |some a=>
  obtain⟨Z,O,Q,_,J,_⟩:=fk1 h.ow2;subst Q;injection C with C;subst C;exact jw2 I J
theorem MI.drewN {w U:World} {A A2:Option Addr} {n c q c2:Nat} {vs:List Value} {ls:List (List It)} {out:List It} (h:MI w U A n c vs ls A2 q c2 out) (k:Nat):MI w (U.drewN k) A n c vs ls A2 q c2 out:=⟨own_below h.own (below_drewN b0_ k),h.inn,own_below h.ow2 (below_drewN b0_ k),below_drewN h.bl k,h.len⟩
theorem MI.go {w U E:World} {A A2:Option Addr} {n c q c2:Nat} {vs:List Value} {ls:List (List It)} {out:List It} (h:MI w U A n c vs ls A2 q c2 out) (C:Below U.heap.size U E):MI w E A n c vs ls A2 q c2 out:=⟨own_below h.own C,h.inn,own_below h.ow2 C,az h.bl C,h.len⟩
theorem MI.store {w wr W:World} {A2 C:Option Addr} {n c q c2 g j k d:Nat} {vs:List Value} {ls:List (List It)} {out r:List It} (h:MI w wr (some ⟨g,0,none⟩) n c vs ls A2 q c2 out) (E:Below wr.heap.size wr W)
  (hk:k<=d) (hd:d<=maxLen) (hr:Row w.heap.size w C k 5 (itc r)):MI w (W.setCell ⟨g,j,none⟩ (.slice C k d)) (some ⟨g,0,none⟩) n c (vs.set j (.slice C k d)) (ls.set j r) A2 q c2 out:=by
 obtain⟨g1,cur,H,hg,I,J,O,Q,U⟩:=fk1 (own_below h.own E);injection H with H;subst H;have hs:=I.store j (.slice C k d);have ho:=jv4 hg hs (n:=n) (c:=c) (size:=1) (by rw[aE_];exact J) O Q;rw[List.take_set,U]at ho;have ha:=h.apart;refine⟨ho,h.inn.set hk hd hr,jy (own_below h.ow2 E) (xw W ⟨g,j,none⟩ (.slice C k d)) (fun g' Z hm=>ha g' Z (a_.1 hm)),?_,h.len⟩;exact(az h.bl E).setCell hg _
theorem MI.more {w U I W:World} {A2 J:Option Addr} {n c q c2 c3 g:Nat} {vs:List Value} {ls:List (List It)} {out C:List It} (h:MI w U (some ⟨g,0,none⟩) n c vs ls A2 q c2 out) (Q:Below U.heap.size U I)
  (Z:I.grownBy W (Value.slice A2 q c2).ownBlock) (ho:W.ownsRow w.heap.size 49 5 (.slice J (q+1) c3) (q+1) (itc C)) (E:Below w.heap.size w W) (hl:q+1=C.length):MI w W (some ⟨g,0,none⟩) n c vs ls J (q+1) c3 C:=by
 have ha:=h.apart;refine⟨jy (own_below h.own Q) (Chg.qy (F:=(Value.slice A2 q c2).ownBlock.toList) Z (fun b E=>by rw[E];simp)) (fun O H hm=>?_),h.inn,ho,E,hl⟩;have e:O=g:=by injection H with e;exact e.symm
 exact ha O (by simpa using hm) e
theorem MI.over {w U:World} {n c q c2 g E:Nat} {vs:List Value} {ls:List (List It)} {out:List It} (h:MI w U (some ⟨g,0,none⟩) n c vs ls (some ⟨E,0,none⟩) (q+1) c2 out) (x:It):
  MI w (U.setCells E (q *5) x.cells) (some ⟨g,0,none⟩) n c vs ls (some ⟨E,0,none⟩) (q+1) c2 (out.dropLast++[x]):=by
 have C:=h.len;have ha:=h.apart E rfl;obtain⟨g1,cur,J,H,O,I,Q,Z,a0⟩:=fk1 h.ow2;injection J with J;subst J;have hs:=BoxO.stores x.cells (q *5) U cur O (by rw[x.gq,I];omega);have hc:Chg [E] U (U.setCells E (q *5) x.cells):=(((((Chg.refl [E] U).setCell _ (.inl s_)).setCell _ (.inl s_)).setCell _ (.inl s_)).setCell _ (.inl s_)).setCell _ (.inl s_);have ho:=jv4 H hs (n:=q+1) (c:=c2) (size:=5) (by simp only[d_,v_,I_,x.gq,I];omega) Q Z;have e2:(cur.take (q *5)++(x.cells++cur.drop (q *5+x.cells.length))).take ((q+1)*5)=itc (out.dropLast++[x]):=by
  have e3:cur.take (q *5)=itc out.dropLast:=by
   rw[List.dropLast_eq_take,<-C,dz1,<-a0,aV_,show min ((q+1 - 1)*5) ((q+1)*5)=q *5 by omega]
  have e4:(itc out.dropLast).length=q *5:=by rw[jk,b9_,<-C];rfl
  rw[e3,List.take_append,e4,g_ (by rw[e4];omega),show (q+1)*5 - q *5=5 by omega,lq]
  congr 1
 rw[e2]at ho;refine⟨jy h.own hc (fun g' a1 hm=>?_),h.inn,ho,?_,by rw[d_,b9_,<-C];rfl⟩
 ·have e:g=g':=by injection a1
  exact ha ((a_.1 hm).symm.trans e.symm)
 ·exact((((h.bl.setCell H _).setCell H _).setCell H _).setCell H _).setCell H _
theorem kz2 {P S a oi v} (h:Hv P S a oi v:=by intro w C;(obtain⟨z1,z2,⟨x0,x1,x2,x3,x4⟩,y0,y1,y2,y3,y4⟩:=KC.out w C);go_simp;try (with_reducible rfl)):Hv P S a oi v:=h
theorem kz3 {P S a oi v} (h:Hv P S a oi v:=by intro w C;(obtain⟨⟨x0,x1,x2,x3,x4⟩,y0,y1,y2,y3,y4⟩:=KC.out w C);go_simp;try (with_reducible rfl)):Hv P S a oi v:=h
theorem kx2 (A:Option Addr) (n c:Nat) (ls:List (List It)) (wi:World) (hn:n<=1000000) (j2:Mg.tot ls<=1000000) (h0:A=none->n=0/\c=0) (hr:oj1 wi.heap.size wi A n ls):
  Calls prog 36 #[.slice A n c] wi (dw1 wi (Mg.rows ls)):=by
 obtain⟨i0,j4,j5,j6,j7⟩:=info_parts qw;obtain⟨vs,hrow,p6,i1⟩:=hr;have m':=hrow.len;have h1:∀u∈vs,u.oneCell'=true:=by
  intro u hu;obtain⟨i,hi,rfl⟩:=bE_.1 hu;obtain⟨B,k,d,e,_⟩:=i1 i o_;rw[h_ hi]at e;injection e with e;rw[e];rfl
 have g1:RIn wi.heap.size wi vs ls:=⟨o_,i1⟩;have HI:=H_ g1;have HC:=H_ (cq4 A n c vs wi hn h0 h1 hrow);clear i1 h1 hrow h0 g1 m';go_enter func36,ntmps36;go_wp2_with fail;refine HC.out.mono ?_;rintro e w1 ⟨A',c',rfl,ho,hb⟩;have j8:=H_ (show MI wi w1 A' n c' vs ls none 0 0 []/\Mg.run (Mg.tot ls) ls []=Mg.rows ls/\([]:List It).length+Mg.tot ls<=1000000 from ⟨⟨ho,HI.out,E_ _ _ _ _,hb,rfl⟩,rfl,by simpa using j2⟩);clear ho hb HI HC;go_wp2
 go_loopw [3] (fun o wr=>∃E out i3 A2 q c2,o=.slice A2 q c2/\Hid (MI wi wr A' n c' i3 E A2 q c2 out/\Mg.run (Mg.tot E) E out=Mg.rows ls/\out.length+Mg.tot E<=1000000)) (fun _ wr=>leftOf A' n wr)
 case atStart=>exact⟨ls,[],vs,none,0,0,rfl,j8⟩
 case round=>
  obtain⟨E,out,i3,A2,q,c2,rfl,HQ⟩:=hrel;clear j8;go_wp2
  go_loopw [5,14] (fun a i wq=>∃k:Nat,k<=n/\a=.int .i64 (Mg.at_ (Mg.sel E k))/\i=.int .i64 (k:Int)/\Below wr.heap.size wr wq) (fun _ i _=>n - (intOf i).toNat)
  case atStart=>exact⟨0,o_,rfl,rfl,Below.refl _ _⟩
  case round=>
   obtain⟨k,hk,rfl,rfl,a0⟩:=hrel
   by_cases n0:k < n
   ·obtain⟨g,B,kk,d,eA,n1,d0,Q,n2,n3,b5,hrow,n4,n5⟩:=HQ.out.1.row n0
    subst eA;have i4:=(a0.cell (p:=⟨g,k,none⟩) d0).trans Q;have n6:(k:Int) < (n:Int):=o_
    cases e:E.getD k [] with
    |nil=>
     rw[e]at b5;simp only[V_]at b5;subst b5;have hs:Mg.sel E (k+1)=Mg.sel E k:=by
      show (if Mg.hd E (Mg.sel E k) (E.getD k [])=true then some k else Mg.sel E k)=_
      rw[e];rfl
     have HS:=H_ hs;clear hrow hs e Q HQ;go_wp2_with fail
     go_quiet (fail)
     go_wp2;go_roundw
     case rel=>exact⟨k+1,o_,by rw[HS.out],by go_num,below_drewN a0 _⟩
     case measure=>simp[intOf];omega
    |cons x r=>
     rw[e]at b5 hrow;simp only[q_]at b5;have n7:(0:Int) < (kk:Int):=o_
     have i5:0 < kk:=o_
     obtain⟨b,hl,rfl,e6,a8⟩:=hrow.it (k:=0) i5;simp only[a5_]at a8
     cases es:Mg.sel E k with
     |none=>
      have hs:Mg.sel E (k+1)=some k:=by
       show (if Mg.hd E (Mg.sel E k) (E.getD k [])=true then some k else Mg.sel E k)=_
       rw[e,es];rfl
      have HS:=H_ hs;clear hrow hs e Q HQ a8 es;unfold Mg.at_;go_wp2_with fail
      go_quiet (fail)
      go_wp2;go_roundw
      case rel=>exact⟨k+1,o_,(by rw[HS.out]),by go_num,below_drewN a0 _⟩
      case measure=>simp[intOf];omega
     |some j=>
      obtain⟨j9,y,r2,ey⟩:=Mg.kq2 es;obtain⟨g',B2,k2,d2,eA,_,o0,c9,p',q2,g4,b7,q3,_⟩:=HQ.out.1.row (i:=j) o_;injection eA with eA;injection eA with eA;subst eA;rw[ey]at g4 b7;simp only[q_]at g4;have s0:(0:Int) < (k2:Int):=o_
      have o1:0 < k2:=o_
      obtain⟨b2,o2,rfl,g5,b6⟩:=b7.it (k:=0) o1;simp only[a5_]at b6;have hs:Mg.sel E (k+1)=if x.less y=true then some k else some j:=by
       show (if Mg.hd E (Mg.sel E k) (E.getD k [])=true then some k else Mg.sel E k)=_
       rw[e,es];show (if (match E.getD j [] with|[]=>false|y::_=>x.less y)=true then _ else _)=_
       rw[ey]
      have e7:=fun W=>fz1 x y W;obtain⟨bb,j'⟩:=n_ (x.less y);rw[<-j']at hs e7;unfold It.val at e7;have o3:(j:Int) < (n:Int):=o_
      have o4:((j:Int) < 0)=False:=eq_false o_;have b8:=HQ.out.1.bl;have d1:∀w',Below wr.heap.size wr w'->(w'.cell? ⟨g,k,none⟩=some (.slice (some b) kk d))/\(w'.cell? ⟨g,j,none⟩=some (.slice (some b2) k2 d2))/\(w'.cell? (b.add (0 *5))=some (.int .i64 x.s)/\w'.cell? ⟨(b.add (0 *5)).block,(b.add (0 *5)).off+1,none⟩=some (.int .i64 x.k)/\w'.cell? ⟨(b.add (0 *5)).block,(b.add (0 *5)).off+2,none⟩=some (.int .u64 (x.t:Int))/\w'.cell? ⟨(b.add (0 *5)).block,(b.add (0 *5)).off+3,none⟩=some (.int .u64 (x.v:Int))/\w'.cell? ⟨(b.add (0 *5)).block,(b.add (0 *5)).off+4,none⟩=some (.int .i64 x.x))/\w'.cell? (b2.add (0 *5))=some (.int .i64 y.s)/\w'.cell? ⟨(b2.add (0 *5)).block,(b2.add (0 *5)).off+1,none⟩=some (.int .i64 y.k)/\w'.cell? ⟨(b2.add (0 *5)).block,(b2.add (0 *5)).off+2,none⟩=some (.int .u64 (y.t:Int))/\w'.cell? ⟨(b2.add (0 *5)).block,(b2.add (0 *5)).off+3,none⟩=some (.int .u64 (y.v:Int))/\w'.cell? ⟨(b2.add (0 *5)).block,(b2.add (0 *5)).off+4,none⟩=some (.int .i64 y.x):=fun w' hb=>by
       have e9:=az a0 hb;have h1:=a8.below (B:=wi.heap.size) (w':=w') e6 (az b8 e9);have h2:=b6.below (B:=wi.heap.size) (w':=w') g5 (az b8 e9);exact⟨(e9.cell (p:=⟨g,k,none⟩) d0).trans Q,(e9.cell (p:=⟨g,j,none⟩) o0).trans c9,⟨h1.c0,h1.c1,h1.c2,h1.c3,h1.c4⟩,h2.c0,h2.c1,h2.c2,h2.c3,h2.c4⟩
      simp only[mw1]at d1;have KC:=H_ d1;have HS:=H_ hs;have k0:=H_ e7;clear d1 hs e7 hrow b7 e es ey Q c9 HQ a8 b6 j' b8 e6 g5 hl o2;unfold Mg.at_;go_wp2_with fail;refine w_h wr fun C=>?_;refine w_v 0 C ?_ (k:=kz2);go_simp;refine w_v 1 C ?_ (k:=kz2);go_simp;refine w_v 2 C ?_ (k:=kz2);go_simp;refine w_v 3 C ?_ (k:=kz2);go_simp;refine w_v 4 C ?_ (k:=kz2);go_simp;refine w_v 5 C ?_ (k:=kz2);go_simp;refine w_v 6 C ?_ (k:=kz2);go_simp;refine w_v 7 C ?_ (k:=kz2);go_simp;refine w_v 8 C ?_ (k:=kz2);go_simp;refine w_v 9 C ?_ (k:=kz2);go_simp;refine w_v 10 C ?_ (k:=kz2);go_simp;refine w_v 11 C ?_ (k:=kz2);go_simp;refine w_v 12 C ?_ (k:=kz2);go_simp;refine w_v 13 C ?_ (k:=kz2);go_simp;refine w_v 14 C ?_ (k:=kz2);go_simp;refine w_v 15 C ?_ (k:=kz2);go_simp;refine w_r 16 fun K hK=>?_;go_simp
      with_reducible refine(k0.out _).mono ?_
      rintro e w3 ⟨rfl,i6⟩;go_simp;refine hK.out _ _ (C.trans (i6.mono C.size)) ?_;clear C hK K;intro C;go_simp;refine w_v 17 C ?_ (k:=kz2);go_simp;refine w_v 18 C ?_ (k:=kz2);go_simp;refine w_d ?_;have k1:=az a0 C;clear C KC k0
      cases bb with
      |true=>
       go_wp2;go_roundw
       case rel=>exact⟨k+1,o_,(by rw[HS.out];rfl),by go_num,k1⟩
       case measure=>simp[intOf];omega
      |false=>
       go_wp2;go_roundw
       case rel=>exact⟨k+1,o_,(by rw[HS.out];rfl),by go_num,k1⟩
       case measure=>simp[intOf];omega
   ·obtain rfl:k=n:=o_
    have n6:((k:Int) < (k:Int))=False:=eq_false o_;have k3:=HQ.out.1.ln
    cases es:Mg.sel E k with
    |none=>
     have hR:=HQ.out.2.1;rw[Mg.cy5 (by rw[k3];exact es)]at hR;obtain⟨A3,c3,hv,k5,o5,g7⟩:=gz HQ.out.1.ow2;injection hv with e1 e2 e3;subst e1 e3;have g9:Its wi.heap.size wr A2 q q (Mg.rows ls):=⟨by rw[<-hR];exact Row.below (Row.own HQ.out.1.ow2) a0|>.up a0.size,y_ _,o_,fun p hp=>(g7 p hp).1⟩;have o6:=H_ (c_ (show q=(Mg.rows ls).length by rw[<-hR];exact HQ.out.1.len) (c_ g9 (az HQ.out.1.bl a0)));have HK:=H_ (ny1 A2 q c2 wr k5);clear g9 hR k5 o5 g7 HQ es;unfold Mg.at_;go_wp2_with fail;refine HK.out.mono ?_;rintro e w2 ⟨rfl,rfl⟩;go_wp2;go_ret;exact⟨A2,q,q,rfl,o6.out⟩
    |some j=>
     obtain⟨j9,x,r,ex⟩:=Mg.kq2 es;obtain⟨g,B,kk,d,eA,n1,d0,Q,n2,n3,b5,hrow,n4,n5⟩:=HQ.out.1.row j9;subst eA;rw[ex]at b5 hrow;simp only[q_]at b5;have n7:(0:Int) < (kk:Int):=o_
     have i5:0 < kk:=o_
     obtain⟨b,hl,rfl,e6,a8⟩:=hrow.it (k:=0) i5;simp only[a5_]at a8;have b6:=a8.below (B:=wi.heap.size) e6 (az HQ.out.1.bl a0);obtain⟨x0,x1,x2,x3,x4⟩:=b6;simp only[mw1]at x0 x1 x2 x3 x4;have i4:=(a0.cell (p:=⟨g,j,none⟩) d0).trans Q;have e':=b_ wr (.cells #[.int .i64 x.s,.int .i64 x.k,.int .u64 (x.t:Int),.int .u64 (x.v:Int),.int .i64 x.x] 49);have a1:BoxO (wr.alloc (.cells #[.int .i64 x.s,.int .i64 x.k,.int .u64 (x.t:Int),.int .u64 (x.v:Int),.int .i64 x.x] 49)) 49 wr.heap.size x.cells:=BoxO.new wr #[.int .i64 x.s,.int .i64 x.k,.int .u64 (x.t:Int),.int .u64 (x.v:Int),.int .i64 x.x] 49;have o7:=(e'.cell (p:=⟨g,j,none⟩) (N_ d0 a0.size)).trans i4;have o8:(wr.alloc (.cells #[.int .i64 x.s,.int .i64 x.k,.int .u64 (x.t:Int),.int .u64 (x.v:Int),.int .i64 x.x] 49)).frozen? ⟨g,j,none⟩=false:=by
      obtain⟨g',cur,e,_,a1,_⟩:=fk1 (own_below (own_below HQ.out.1.own a0) e');injection e with e;subst e;exact a1.free j
     have o3:(j:Int) < (k:Int):=o_
     have o4:((j:Int) < 0)=False:=eq_false o_;have s6:(1:Int)<=(kk:Int):=o_
     have hcut:∀BB:Option Addr,(1 < kk->BB=(some b).map (·.add (1 *5)))->Row wi.heap.size wi BB r.length 5 (itc r):=fun BB h=>by
      have h2:=hrow.dw6 (k:=1) (m:=kk) o_ l_ h;have e5:((x::r).drop 1).take (kk - 1)=r:=by rw[List.drop_one,List.tail_cons,g_ o_]
      rw[e5]at h2
      rwa [show kk - 1=r.length by omega]at h2
     have hN:=fun(BB:Option Addr) (d':Nat) (h1:r.length<=d') (h2:d'<=maxLen) (h3:Row wi.heap.size wi BB r.length 5 (itc r))=>MI.store (j:=j) HQ.out.1 (az a0 e') h1 h2 h3;have k7:=fun(h:d=1)=>hN (some b) 0 o_ o_ (hcut _ (fun h=>o_));have k8:=hN (some ⟨b.block,b.off+5,none⟩) (d - 1) o_ o_ (hcut _ (fun _=>by rw[a3_,show 1 *5=0 *5+5 from rfl,gy2 b (0 *5) o_,mw1]));have h6:Mg.run (Mg.tot (E.set j r)) (E.set j r) (Mg.put out x)=Mg.rows ls:=by rw[<-Mg.jz5 (by rw[k3];exact es) ex];exact HQ.out.2.1
     have k9:=Mg.nx3 (ls:=E) (j:=j) o_ ex;have d5:=oz1 (Row.own HQ.out.1.own) HQ.out.1.inn;have H:=H_ (c_ h6 (c_ k9 (c_ d5 HQ.out.2.2)));have k':=fun v=>a1.chg (xw (wr.alloc (.cells #[.int .i64 x.s,.int .i64 x.k,.int .u64 (x.t:Int),.int .u64 (x.v:Int),.int .i64 x.x] 49)) ⟨g,j,none⟩ v) (by have:=N_ d0 a0.size;simp only[a_];omega);have l1:=H_ k7;have l2:=H_ k8;have i7:=H_ k';have q6:d=1\/¬d=1:=o_
     clear a8 hl hcut hN k7 k8 h6 k9 d5 k' e' a1 HQ hrow Q es ex;unfold Mg.at_;go_wp2_with fail
     all_goals
      first
       |(have I:=l1.out (by assumption);have J:=i7.out (.slice (some b) r.length 0))
       |(have I:=l2.out;have J:=i7.out (.slice (some ⟨b.block,b.off+5,none⟩) r.length (d - 1)))
      clear l1 l2 i7;generalize World.setCell _ _ _=U at *;clear x0 x1 x2 x3 x4 i4 o7 o8;generalize wr.heap.size=g8 at *;generalize List.set i3 _ _=s8 at *;obtain⟨s9,h7⟩:=n_ (E.set j r);rw[<-h7]at I H;clear h7
      rcases ao_ q with h0|h0
      ·subst h0
       have ho:out=[]:=ag_.1 I.len.symm;have b9:=H_ (show Mg.put out x=out++[x] by rw[ho];rfl)
       go_quiet (fail)
       have I:=I.drewN nq;have J:=J.drewN nq;generalize U.drewN nq=U at *;have b0:=J.cell 0;have b1:=J.cell 1;have b2:=J.cell 2;have b3:=J.cell 3;have b4:=J.cell 4;simp only[It.cells,gE0,gE1]at b0 b1 b2 b3 b4;have d6:BoxO (U.alloc (.cells #[.int .i64 x.s,.int .i64 x.k,.int .u64 (x.t:Int),.int .u64 (x.v:Int),.int .i64 x.x] 49)) 49 U.heap.size x.cells:=BoxO.new U #[.int .i64 x.s,.int .i64 x.k,.int .u64 (x.t:Int),.int .u64 (x.v:Int),.int .i64 x.x] 49;have a':=b_ U (.cells #[.int .i64 x.s,.int .i64 x.k,.int .u64 (x.t:Int),.int .u64 (x.v:Int),.int .i64 x.x] 49);have d7:=own_below I.ow2 a';have b':=az I.bl a';have a4:=az1 d6;have HX:=H_ (show itc out++x.cells=itc (out++[x]) by rw[lq];simp[itc]);have d8:=H_ a4;have HO:=H_ d7;have HB:=H_ b';have HM:=H_ (c_ I a');have o':0+1<=1000000:=by have:=HM.out.1.len;have:=H.out;omega
       clear a4 d6 a' b' d7 I J;go_wp2_with (at_builtin;refine iy ?_);refine bz (iq rfl (.tmp 73) (.tmp 75) _ rfl wi.heap.size 49 i0 _ 5 40 underlying26 j4 j5 j6 j7 rfl o_ wi HB.out HB.out.size _ (0) (itc out) rfl HO.out (U.alloc (.cells #[.int .i64 x.s,.int .i64 x.k,.int .u64 (x.t:Int),.int .u64 (x.v:Int),.int .i64 x.x] 49)).heap.size _ 1 1 x.cells rfl d8.out (fun v hv=>uj [x] v (by simpa [itc] using hv)) (0+1) _ rfl HX.out (by unfold maxLen;omega) o_ ?_);intro A3 c3 w5 h1 h2 h3 h4 h5;have O:=MI.more HM.out.1 HM.out.2 h3 h1 h2 (by rw[d_,<-HM.out.1.len];rfl);have a5:=oz1 (Row.own O.own) O.inn;have Z:=H_ (c_ O a5);clear h1 h2 h3 h4 h5 HX d8 HO HB HM O a5;go_wp2;go_roundw
       case rel=>exact⟨_,_,_,A3,0+1,c3,rfl,H_ ⟨Z.out.1,b9.out▸H.out.1,by have:=H.out;have:=Z.out.1.len;omega⟩⟩
       case measure=>rw[Z.out.2,H.out.2.2.1];have:=H.out;omega
      ·obtain⟨p,rfl⟩:∃p,q=p+1:=⟨q - 1,o_⟩
       have t0:(((p+1:Nat):Int)==0)=false:=beq_eq_false_iff_ne.2 o_;obtain⟨a2,l6,rfl,l7,a8⟩:=(Row.own I.ow2).it (k:=p) o_;clear a8 l7;obtain⟨g2,cur,e,_,e0,h8,q7,q8,h9⟩:=fk1 I.ow2;subst e;have l9:out.getLast?=some out[p]:=by rw[List.getLast?_eq_getElem?,<-I.len];exact h_ l6
       have hcells:∀j,j < 5->cur[p *5+j]?=(out[p]).cells[j]?:=fun j hj=>by
        rw[<-jj2 out p j l6 hj,<-h9,a1_,if_pos o_]
       generalize out[p]=y at *;have f5:=fun W=>kk2 y x W;have f6:=fun W=>fk2 x y W;obtain⟨bs,i9⟩:=n_ (y.same x);obtain⟨bw,b8⟩:=n_ (x.wins y);have h':Mg.put out x=if bs=true then if bw=true then out.dropLast++[x] else out else out++[x]:=by
        unfold Mg.put;rw[l9,i9,b8]
       rw[<-i9]at f5;rw[<-b8]at f6;unfold It.val at f5 f6;have d1:∀w',Below U.heap.size U w'->(w'.cell? ⟨g8,0,none⟩=some (.int .i64 x.s)/\w'.cell? ⟨g8,1,none⟩=some (.int .i64 x.k)/\w'.cell? ⟨g8,2,none⟩=some (.int .u64 (x.t:Int))/\w'.cell? ⟨g8,3,none⟩=some (.int .u64 (x.v:Int))/\w'.cell? ⟨g8,4,none⟩=some (.int .i64 x.x))/\w'.cell? ⟨g2,p *5,none⟩=some (.int .i64 y.s)/\w'.cell? ⟨g2,p *5+1,none⟩=some (.int .i64 y.k)/\w'.cell? ⟨g2,p *5+2,none⟩=some (.int .u64 (y.t:Int))/\w'.cell? ⟨g2,p *5+3,none⟩=some (.int .u64 (y.v:Int))/\w'.cell? ⟨g2,p *5+4,none⟩=some (.int .i64 y.x):=fun w' hb=>by
        have e:=J.below hb;have e2:=e0.below hb;refine⟨⟨e.cell 0,e.cell 1,e.cell 2,e.cell 3,e.cell 4⟩,?_⟩;exact⟨(e2.cell (p *5)).trans (hcells 0 o_),(e2.cell (p *5+1)).trans (hcells 1 o_),(e2.cell (p *5+2)).trans (hcells 2 o_),(e2.cell (p *5+3)).trans (hcells 3 o_),(e2.cell (p *5+4)).trans (hcells 4 o_)⟩
       have t1:(p:Int) < ((p+1:Nat):Int):=o_
       have r0:p < p+1:=o_
       have t2:IntKind.i64.wrap (((p+1:Nat):Int) - 1)=(p:Int):=by rw[show ((p+1:Nat):Int) - 1=(p:Int) by omega];exact D_ _ (by have:=I.len;have:=H.out;omega)
       have r3:IntKind.i64.wrap (p:Int)=(p:Int):=D_ _ (by have:=I.len;have:=H.out;omega);have t3:(((p:Int)+1)==0)=false:=beq_eq_false_iff_ne.2 o_;have t4:((p:Int)+1=0)=False:=eq_false o_;have r4:(p:Int) < (p:Int)+1:=o_
       have d3:=H_ I;have f7:=H_ J;have f8:=H_ (c_ e0 h8);have KC:=H_ d1;have f9:=H_ f5;have f':=H_ f6;have a9:=H_ h';clear d1 f5 f6 J I e0 h8 h' l9 hcells i9 b8 h9;refine w_h U fun C=>?_;refine w_v 0 C ?_ (k:=kz3);go_simp;refine w_v 1 C ?_ (k:=kz3);go_simp;refine w_v 2 C ?_ (k:=kz3);go_simp;refine w_v 3 C ?_ (k:=kz3);go_simp;refine w_v 4 C ?_ (k:=kz3);go_simp;refine w_v 5 C ?_ (k:=kz3);go_simp;refine w_v 6 C ?_ (k:=kz3);go_simp;refine w_v 7 C ?_ (k:=kz3);go_simp;refine w_v 8 C ?_ (k:=kz3);go_simp;refine w_r 9 fun K hK=>?_;go_simp
       with_reducible refine(f9.out _).mono ?_
       rintro e w3 ⟨rfl,i6⟩;go_simp;refine hK.out _ _ (C.trans (i6.mono C.size)) ?_;clear C hK K;intro C;go_simp;refine w_v 10 C ?_ (k:=kz3);go_simp;refine w_v 11 C ?_ (k:=kz3);go_simp;refine w_v 12 C ?_ (k:=kz3);go_simp;refine w_d ?_
       cases bs with
       |false=>
        have b9:=H_ (show Mg.put out x=out++[x] from a9.out);have I:=d3.out.go C;have J:=f7.out.below C;clear C KC f9 f' d3 f7 f8 a9;generalize w3=U2 at *;have b0:=J.cell 0;have b1:=J.cell 1;have b2:=J.cell 2;have b3:=J.cell 3;have b4:=J.cell 4;simp only[It.cells,gE0,gE1]at b0 b1 b2 b3 b4;have d6:BoxO (U2.alloc (.cells #[.int .i64 x.s,.int .i64 x.k,.int .u64 (x.t:Int),.int .u64 (x.v:Int),.int .i64 x.x] 49)) 49 U2.heap.size x.cells:=BoxO.new U2 #[.int .i64 x.s,.int .i64 x.k,.int .u64 (x.t:Int),.int .u64 (x.v:Int),.int .i64 x.x] 49;have a':=b_ U2 (.cells #[.int .i64 x.s,.int .i64 x.k,.int .u64 (x.t:Int),.int .u64 (x.v:Int),.int .i64 x.x] 49);have d7:=own_below I.ow2 a';have b':=az I.bl a';have a4:=az1 d6;have HX:=H_ (show itc out++x.cells=itc (out++[x]) by rw[lq];simp[itc]);have d8:=H_ a4;have HO:=H_ d7;have HB:=H_ b';have HM:=H_ (c_ I a');have o':p+1+1<=1000000:=by have:=HM.out.1.len;have:=H.out;omega
        clear a4 d6 a' b' d7 I J;go_wp2_with (at_builtin;refine iy ?_);refine bz (iq rfl (.tmp 73) (.tmp 75) _ rfl wi.heap.size 49 i0 _ 5 40 underlying26 j4 j5 j6 j7 rfl o_ wi HB.out HB.out.size _ (p+1) (itc out) rfl HO.out (U2.alloc (.cells #[.int .i64 x.s,.int .i64 x.k,.int .u64 (x.t:Int),.int .u64 (x.v:Int),.int .i64 x.x] 49)).heap.size _ 1 1 x.cells rfl d8.out (fun v hv=>uj [x] v (by simpa [itc] using hv)) (p+1+1) _ rfl HX.out (by unfold maxLen;omega) o_ ?_);intro A3 c3 w5 h1 h2 h3 h4 h5;have O:=MI.more HM.out.1 HM.out.2 h3 h1 h2 (by rw[d_,<-HM.out.1.len];rfl);have a5:=oz1 (Row.own O.own) O.inn;have Z:=H_ (c_ O a5);clear h1 h2 h3 h4 h5 HX d8 HO HB HM O a5;go_wp2;go_roundw
        case rel=>exact⟨_,_,_,A3,p+1+1,c3,rfl,H_ ⟨Z.out.1,b9.out▸H.out.1,by have:=H.out;have:=Z.out.1.len;omega⟩⟩
        case measure=>rw[Z.out.2,H.out.2.2.1];have:=H.out;omega
       |true=>
        go_wp2_with fail;refine wp_region_held_drew (S:=fun w'=>Below U.heap.size U w') rfl (ak C) (fun C=>?_);refine w_v 0 C ?_ (k:=kz3);go_simp;refine w_v 1 C ?_ (k:=kz3);go_simp;refine w_v 2 C ?_ (k:=kz3);go_simp;refine w_v 3 C ?_ (k:=kz3);go_simp;refine w_v 4 C ?_ (k:=kz3);go_simp;refine w_v 5 C ?_ (k:=kz3);go_simp;refine w_r 6 fun K hK=>?_;go_simp
        with_reducible refine(f'.out _).mono ?_
        rintro e w4 ⟨rfl,b'⟩;go_simp;refine hK.out _ _ (C.trans (b'.mono C.size)) ?_;clear C hK K;intro C;go_simp;refine w_v 7 C ?_ (k:=kz3);go_simp;refine w_d ?_
        cases bw with
        |false=>
         have b9:=H_ (show Mg.put out x=out from a9.out);have O:=d3.out.go C;have a5:=oz1 (Row.own O.own) O.inn;have Z:=H_ (c_ O a5);clear C KC f9 f' d3 f7 f8 a9 O a5;go_wp2;go_roundw
         case rel=>exact⟨_,_,_,_,p+1,c2,rfl,H_ ⟨Z.out.1,b9.out▸H.out.1,by have:=H.out;have:=Z.out.1.len;omega⟩⟩
         case measure=>rw[Z.out.2,H.out.2.2.1];have:=H.out;omega
        |true=>
         have b9:=H_ (show Mg.put out x=out.dropLast++[x] from a9.out);have O:=MI.over (d3.out.go C) x;have a5:=oz1 (Row.own O.own) O.inn;have Z:=H_ (c_ O a5);obtain⟨⟨b0,b1,b2,b3,b4⟩,y0,y1,y2,y3,y4⟩:=KC.out _ C;have a1:=f8.out.1.below C;have f0:=a1.free (p *5);have f1:=a1.free (p *5+1);have f2:=a1.free (p *5+2);have f3:=a1.free (p *5+3);have f4:=a1.free (p *5+4);clear C KC f9 f' d3 f7 f8 a9 O a5 a1;go_wp2;go_roundw
         case rel=>exact⟨_,_,_,_,p+1,c2,rfl,H_ ⟨Z.out.1,b9.out▸H.out.1,by have:=H.out;have:=Z.out.1.len;omega⟩⟩
         case measure=>exact Nat.lt_of_le_of_lt (bA_ Z.out.2) (by rw[H.out.2.2.1];have:=H.out;omega)
theorem gq3 {W:World} {b Q n c m d:Nat} {A B:Option Addr} {xs U:List Value} (h:W.ownsRow b 26 1 (.slice A n c) n xs) (k:W.ownsRow Q 49 5 (.slice B m d) m U):∀g,(Value.slice B m d).ownBlock=some g->(Value.slice A n c).ownBlock≠some g:=by
 intro g C E
 cases A with
 |none=>cases E
 |some a=>
  cases B with
  |none=>cases C
  |some b=>
   obtain⟨Z,cur,e1,_,H,_⟩:=fk1 h;obtain⟨g2,O,e2,_,I,_⟩:=fk1 k;subst e1 e2;injection C with C;injection E with E;subst C;have J:Z=g2:=E;subst J;exact jw2 H I
theorem TbAt.below {w w':World} {f:Nat} {rs:List (List It)} (h:TbAt w f rs) (C:Below w.heap.size w w'):TbAt w' f rs:=by
 obtain⟨P,n,c,cnt,H,E,h1,h2,I,h3⟩:=h;exact⟨P,n,c,cnt,H,E.below C,h1,h2,(I.below C).up C.size,h3⟩
def ROwn (b:Nat) (W:World) (vs:List Value) (ls:List (List It)):Prop:=ls.length=vs.length/\∀i (h:i < ls.length),∃A k c,vs[i]?=some (.slice A k c)/\k=ls[i].length/\k<=c/\c<=maxLen/\W.ownsRow b 49 5 (.slice A k c) k (itc ls[i])
theorem ROwn.below {b:Nat} {W C:World} {vs:List Value} {ls:List (List It)} (h:ROwn b W vs ls) (E:Below W.heap.size W C):ROwn b C vs ls:=
 ⟨h.1,fun i hi=>let ⟨A,k,c,h1,h2,h3,h4,h5⟩:=h.2 i hi;⟨A,k,c,h1,h2,h3,h4,own_below h5 E⟩⟩
theorem ROwn.more {b b' n c:Nat} {E I:World} {A B:Option Addr} {k d:Nat} {xs vs:List Value} {ls:List (List It)} {l:List It} (h:ROwn b E vs ls) (U:E.ownsRow b' 26 1 (.slice A n c) n xs) (H:E.grownBy I (Value.slice A n c).ownBlock)
  (hk:k=l.length) (J:k<=d) (hd:d<=maxLen) (Z:E.ownsRow b 49 5 (.slice B k d) k (itc l)):ROwn b I (vs++[.slice B k d]) (ls++[l]):=by
 have hc:Chg (Value.slice A n c).ownBlock.toList E I:=Chg.qy H (fun b hb=>by rw[hb];simp);refine⟨by simp[h.1],fun i hi=>?_⟩;have hl:=h.1
 rcases ah_ i ls.length with C|C
 ·obtain⟨A',k',c',h1,h2,h3,h4,h5⟩:=h.2 i C
  refine⟨A',k',c',by rw[O_ o_];exact h1,by rw[aR_ C];exact h2,h3,h4,?_⟩;rw[aR_ C];exact jy h5 hc (fun g H O=>gq3 U h5 g H (by simpa using O))
 ·have Q:i=ls.length:=by simp at hi;omega
  subst Q;refine⟨B,k,d,by rw[hl,aj_ l_];simp,by simpa using hk,J,hd,?_⟩;have e:(ls++[l])[ls.length]'hi=l:=by simp
  rw[e];exact jy Z hc (fun g H O=>gq3 U Z g H (by simpa using O))
theorem ROwn.rows {b n c:Nat} {W:World} {A:Option Addr} {vs:List Value} {ls:List (List It)} (h:ROwn b W vs ls) (C:W.ownsRow b 26 1 (.slice A n c) n vs):oj1 W.heap.size W A n ls:=by
 have E:=h.1;have h2:=C.1;exact⟨vs,Row.own C,o_,fun i hi=>let ⟨B,k,d,h1,h2,h3,h4,h5⟩:=h.2 i hi;⟨B,k,d,h1,h3,h4,Row.own h5⟩⟩
def vx3 (w:World) (R:List (List It)) (e:Ending) (w':World):Prop:=∃A' n' c' vs,e=.returned (.slice A' n' c')/\n'=R.length/\w'.ownsRow w.heap.size 26 1 (.slice A' n' c') n' vs/\ROwn w.heap.size w' vs R/\Below w.heap.size w w'
theorem xw4 (f:Nat) (rs:List (List It)) (w:World) (h:TbAt w f rs) (hn:rs.length<=1000000) (O:rs.flatten.length<=1000000):
  Calls prog 93 #[.pointer (some ⟨f,0,none⟩)] w fun e w'=>∃A' k C,e=.returned (.slice A' k C)/\k=rs.flatten.length/\w'.ownsRow w.heap.size 49 5 (.slice A' k C) k (itc rs.flatten)/\k<=C/\C<=maxLen/\Below w.heap.size w w':=by
 obtain⟨P,n,c,cnt,E,H,Q,U,I,-⟩:=h;have Z:rs.length=n:=by obtain⟨_,_,h,_⟩:=I;exact h
 have HC:=H_ (rv1 P n c rs w o_ O I);have b0:=H.c0;clear I H E;go_enter func93,ntmps93;go_wp2_with fail;refine HC.out.mono ?_;rintro e w1 ⟨A',C,rfl,J,h1,h2,h3⟩;generalize hL:rs.flatten.length=L at *;have HO:=H_ J;clear J;go_wp2;go_ret;exact⟨A',L,C,rfl,hL.symm,HO.out,h1,h2,h3⟩
theorem gq2 (A:Option Addr) (n c:Nat) (q:List Tq) (w:World) (hr:Row w.heap.size w A n 3 (hcells q)) (ht:∀p∈q,TbAt w p.2 p.1.2) (hn:n<=100000) (U:∀p∈q,p.1.2.length<=1000000/\p.1.2.flatten.length<=1000000):
  Calls prog 33 #[.slice A n c] w (vx3 w (q.map fun p=>p.1.2.flatten)):=by
 obtain⟨i0,d5,d6,d7,d8⟩:=info_parts rz3;have f5:q.length=n:=by have:=hr.len;rw[tq]at this;omega
 have HR:=H_ (c_ hr (c_ ht U));clear hr ht U;go_enter func33,ntmps33;go_wp2
 go_loopw [3,8] (fun o i wr=>∃(k:Nat) (A2:Option Addr) (c2:Nat) (vs:List Value),k<=n/\o=.slice A2 k c2/\i=.int .i64 (k:Int)/\Hid (wr.ownsRow w.heap.size 26 1 (.slice A2 k c2) k vs/\ROwn w.heap.size wr vs ((q.take k).map fun p=>p.1.2.flatten))/\Below w.heap.size w wr) (fun _ i _=>n - (intOf i).toNat)
 case atStart=>exact⟨0,none,0,[],w_ _,rfl,rfl,H_ ⟨E_ _ _ _ _,rfl,fun i h=>absurd h s_⟩,Below.refl _ _⟩
 case round=>
  obtain⟨k,A2,c2,vs,hk,rfl,rfl,HQ,C⟩:=hrel
  by_cases f6:k < n
  ·have a2:k < q.length:=o_
   have d9:(k:Int) < (n:Int):=o_
   have E:=fun j (hj:j < 3)=>nx1 (fun p:Tq=>[Value.int .i64 p.1.1.1,.int .i64 p.1.1.2,.pointer (some ⟨p.2,0,none⟩)]) 3 (fun _=>rfl) q k j a2 hj;obtain⟨a,rfl,d',b2⟩:=kx1 HR.out.1 (E 0 o_);have a4:∀j v,0 < j->j < 3->[Value.int .i64 q[k].1.1.1,.int .i64 q[k].1.1.2,.pointer (some ⟨q[k].2,0,none⟩)][j]?=some v->w.cell? ⟨(a.add (k *3)).block,(a.add (k *3)).off+j,none⟩=some v:=fun j v h0 hj hv=>by
    obtain⟨a',a5,_,cc⟩:=kx1 HR.out.1 ((E j hj).trans hv);injection a5 with a5;subst a5;rw[<-gy2 a (k *3) h0];exact cc
   have hm:q[k]∈q:=u_ a2;have b3:q.take (k+1)=q.take k++[q[k]]:=by rw[r_ a2]
   have b5:=HR.out.2.1 q[k] hm;have a6:=HR.out.2.2 q[k] hm;generalize q[k]=p at *;have H:(a.add (k *3)).block < w.heap.size:=by rw[add_block];exact d'
   have c0:=(C.cell (p:=a.add (k *3)) H).trans b2;have c1:=(C.cell (p:=⟨(a.add (k *3)).block,(a.add (k *3)).off+1,none⟩) H).trans (a4 1 _ o_ o_ rfl);have e1:=(C.cell (p:=⟨(a.add (k *3)).block,(a.add (k *3)).off+2,none⟩) H).trans (a4 2 _ o_ o_ rfl);have a7:=C.alloc C.size (.cells #[.int .i64 p.1.1.1,.int .i64 p.1.1.2,.pointer (some ⟨p.2,0,none⟩)] 92);have a8:=b_ wr (.cells #[.int .i64 p.1.1.1,.int .i64 p.1.1.2,.pointer (some ⟨p.2,0,none⟩)] 92);have I:=xw4 p.2 p.1.2 _ (b5.below a7) a6.1 a6.2;have HC:=H_ I;have HO:=H_ (c_ (own_below HQ.out.1 a8) (c_ (HQ.out.2.below a8) a7));have HT:=H_ b3;clear I a8 a7 b5 a6 E a4 b2 b3 HQ hm;go_wp2_with fail;refine HC.out.mono ?_;rintro e w2 ⟨B,Z,d,rfl,b7,b8,h1,h2,a9⟩;have J:=b_ w2 (.cells #[.slice B Z d] 26);have b9:=az (az HO.out.2.2 a9) J;have b':=own_below (own_below HO.out.1 a9) J;have c9:=(HO.out.2.1.below a9).below J;have a0:=own_below (own_base b8 HO.out.2.2.size) J;have O:Row (w2.alloc (.cells #[.slice B Z d] 26)).heap.size (w2.alloc (.cells #[.slice B Z d] 26)) (some ⟨w2.heap.size,0,none⟩) 1 1 [.slice B Z d]:=(Row.new w2 #[.slice B Z d] 26 (n:=1) (size:=1) rfl).up s_;have HX:=H_ (c_ b7 (c_ h1 (c_ h2 a0)));have d0:=H_ O;have Q:=H_ (c_ b' c9);have HB:=H_ b9;clear O J b9 b' c9 b8 a0 HO HC h1 h2 b7 c0 c1 e1;go_wp2_with (at_builtin;refine iy ?_);refine bz (iq rfl (.tmp 12) (.tmp 16) _ rfl w.heap.size 26 i0 _ 1 24 underlying98 d5 d6 d7 d8 rfl o_ w HB.out HB.out.size _ k vs rfl Q.out.1 (w2.alloc (.cells #[.slice B Z d] 26)).heap.size _ 1 1 [.slice B Z d] rfl d0.out (fun v hv=>by simp only[a_]at hv;rw[hv];rfl) (k+1) _ rfl rfl (by unfold maxLen;omega) o_ ?_);intro A3 c3 w5 z1 z2 z3 z4 z5;have d1:=ROwn.more Q.out.2 Q.out.1 z3 HX.out.1 HX.out.2.1 HX.out.2.2.1 HX.out.2.2.2;have HN:=H_ (c_ z1 (show ROwn w.heap.size w5 (vs++[.slice B Z d]) ((q.take (k+1)).map fun p=>p.1.2.flatten) by rw[HT.out,am_];exact d1));clear z1 z3 z4 z5 d1 HX d0 Q HB;go_wp2;go_roundw
   case rel=>exact⟨k+1,A3,c3,_,o_,rfl,by go_num,HN,z2⟩
   case measure=>simp[intOf];omega
  ·obtain rfl:k=n:=o_
   have d9:((k:Int) < (k:Int))=False:=eq_false o_;have a1:q.take k=q:=g_ o_;have hq:=HQ.out;rw[a1]at hq;have HF:=H_ hq;clear hq a1 HQ;go_wp2;go_ret;exact⟨A2,k,c2,vs,rfl,by rw[F_];omega,HF.out.1,HF.out.2,C⟩
end Go.Proofs.YtkdbagdiplpcfaaGreatDoor
