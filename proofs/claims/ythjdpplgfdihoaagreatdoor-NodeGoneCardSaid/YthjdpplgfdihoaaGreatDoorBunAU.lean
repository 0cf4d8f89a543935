/- Texts StoA, StoC, StoE, StoD in one. No conditions. -/
import Derived.Test.YthjdpplgfdihoaaGreatDoorBunAT
import Derived.Test.YthjdpplgfdihoaaGreatDoorBunAR
import Derived.Test.YthjdpplgfdihoaaGreatDoorBunAS

set_option linter.unusedSimpArgs false
set_option linter.unusedVariables false
set_option maxRecDepth 100000
set_option maxHeartbeats 16000000
namespace Go.Proofs.YthjdpplgfdihoaaGreatDoor
section
open Go Go.RowKit Go.Lib Go.Shelf
abbrev Tq:=((Int×Int)×List (List It))×Nat
structure Yw where
 s:Nat
 m:Nat
 g:Nat
 mm:Nat
 L:Nat
 ns:List Nd
 P:Sl
 T:Sl
 A:Sl
 q:List Tq
def Yw.foot (Y:Yw):List Nat:=Y.s::Y.m::Y.g::Y.mm::skF Y.L Y.ns
def Yw.cells (Y:Yw) (xd:Nat) (V:Sv):List Value:=[.pointer (some ⟨xd,0,none⟩),.pointer (some ⟨Y.m,0,none⟩),.pointer (some ⟨Y.g,0,none⟩),.pointer (some ⟨Y.mm,0,none⟩),.slice Y.T.a Y.T.n Y.T.c,.slice Y.A.a Y.A.n Y.A.c,.int .i64 (Y.A.n:Int),.int .u32 (if V.only=true then 1 else 0),.int .i32 0,.int .u32 0,.bool V.only]
def hcells (q:List Tq):List Value:=q.flatMap fun p=>[.int .i64 p.1.1.1,.int .i64 p.1.1.2,.pointer (some ⟨p.2,0,none⟩)]
def ex1 (w:World) (T:Sl) (q:List Tq) (ts:List ((Int×Int)×List (List It))):Prop:=q.map (·.1)=ts∧Row w.heap.size w T.a T.n 3 (hcells q)∧T.n≤T.c∧T.c≤maxLen∧(T.a=none→T.n=0∧T.c=0)∧∀p∈q,TbAt w p.2 p.1.2
theorem qy (q:List Tq):(hcells q).length=q.length *3:=by
 induction q with
 |nil=>rfl
 |cons p q ih=>
  unfold hcells at ih ⊢;rw[M_,e_,ih,r_];simp only[r_,R_];omega
theorem ex1.len {w:World} {T:Sl} {q:List Tq} {ts:List ((Int×Int)×List (List It))} (h:ex1 w T q ts):T.n=ts.length:=by
 obtain⟨rfl,h1,_⟩:=h;have:=h1.len;rw[qy]at this;rw[az_];omega
structure Yw.Apart (X:Dw) (Y:Yw):Prop where
 x:∀g∈Y.foot,g∉X.foot
 s:Y.s∉Y.m::Y.g::Y.mm::skF Y.L Y.ns
 m:Y.m∉Y.g::Y.mm::skF Y.L Y.ns
 g:Y.g∉Y.mm::skF Y.L Y.ns
abbrev XY (X:Dw) (Y:Yw):List Nat:=X.foot++Y.foot
structure SvAt (w:World) (X:Dw) (S:Sd) (Y:Yw) (V:Sv):Prop where
 dm:Dm w X S
 box:BoxO w 153 Y.s (Y.cells X.d V)
 man:GK w Y.m X.d V.M Y.P
 row:Vrow w X Y.m Y.P V.M.v.files
 pout:∀j,j < (ax V.M.v.files).length→∀a,Y.P.a=some a→a.block∉Y.foot
 log:LgAt w Y.g X.d V.nm V.sz V.ct
 mem:MmAt w Y.mm Y.L Y.ns
 its:its Y.ns=V.mem
 tabs:qx (XY X Y) w fun w=>ex1 w Y.T Y.q V.tabs
 st:qx (XY X Y) w fun w=>Its 0 w Y.A.a Y.A.n Y.A.c V.st
 apart:Y.Apart X
 ng:∀g∈Y.foot,NG≤g
variable {w w1 w2:World} {X X1 X2:Dw} {S S1 S2:Sd} {Y Y1 Y2:Yw} {V V1 V2:Sv}
theorem Yw.aj {g:Nat}:g∈Y.foot↔g=Y.s∨g=Y.m∨g=Y.g∨g=Y.mm∨g∈skF Y.L Y.ns:=by simp[Yw.foot]
theorem MmAt.lt {w:World} {m L:Nat} {ns:List Nd} (h:MmAt w m L ns):∀g∈m::skF L ns,g < w.heap.size:=by
 intro g hg
 rcases g_.1 hg with rfl|hg
 ·obtain⟨_,hb⟩:=h.box
  exact hb.lt
 ·exact h.sk.lt g hg
theorem SvAt.ylt (h:SvAt w X S Y V):∀g∈Y.foot,g < w.heap.size:=by
 intro g hg
 rcases Yw.aj.1 hg with rfl|rfl|rfl|rfl|h1
 ·exact h.box.lt
 ·exact h.man.lt
 ·exact h.log.lt
 ·exact h.mem.lt _ m_
 ·exact h.mem.lt _ (f_ _ h1)
theorem SvAt.lt (h:SvAt w X S Y V):∀g∈XY X Y,g < w.heap.size:=by
 intro g hg
 rcases q_.1 hg with h1|h1
 ·exact h.dm.dk.lt g h1
 ·exact h.ylt g h1
theorem SvAt.alen (h:SvAt w X S Y V):Y.A.n=V.st.length:=h.st.now.row.uz.symm
theorem SvAt.tlen (h:SvAt w X S Y V):Y.T.n=V.tabs.length:=h.tabs.now.len
theorem SvAt.plen (h:SvAt w X S Y V):Y.P.n=V.M.v.files.length:=by
 have:=h.row.row.len;unfold ax at this;have e:∀l:List (Int×Int),(l.flatMap fun f=>[Value.int .i64 f.1,Value.int .i64 f.2]).length=l.length *2:=fun l=>by
  induction l with
  |nil=>rfl
  |cons a l ih=>rw[M_,e_,ih,r_];simp only[r_,R_];omega
 rw[e]at this;omega
theorem SvAt.chg {G:List Nat} (h:SvAt w X S Y V) (c:Chg G w w1) (hG:∀g∈G,g∉XY X Y∧NG≤g) (hP:∀a,Y.P.a=some a→a.block∉G) (ht:qx (XY X Y) w1 fun w=>ex1 w Y.T Y.q V.tabs) (hs:qx (XY X Y) w1 fun w=>Its 0 w Y.A.a Y.A.n Y.A.c V.st):SvAt w1 X S Y V:=by
 have hn:∀g∈Y.foot,g∉G:=fun g h1 h2=>(hG g h2).1 (k_ _ h1);refine⟨h.dm.chg c (fun g hg=>⟨fun hm=>(hG g hg).1 (s_ _ hm),(hG g hg).2⟩),h.box.chg c (hn _ (Yw.aj.2 (.inl rfl))),h.man.chg c (hn _ (Yw.aj.2 (.inr (.inl rfl)))),?_,h.pout,h.log.chg c (hn _ (Yw.aj.2 (.inr (.inr (.inl rfl))))),h.mem.chg c (fun g hg=>hn g (Yw.aj.2 ?_)),h.its,ht,hs,h.apart,h.ng⟩
 ·exact⟨(oq c h.row.row l_ (fun j hj a ha=>hP a ha)).up c.size,h.row.nc,h.row.cm,h.row.nb,h.row.away⟩
 ·rcases g_.1 hg with rfl|hg
  ·exact .inr (.inr (.inr (.inl rfl)))
  ·exact .inr (.inr (.inr (.inr hg)))
theorem SvAt.below (h:SvAt w X S Y V) (hb:Below w.heap.size w w1):SvAt w1 X S Y V:=
 h.chg (G:=[]) (Chg.of_below hb []) (fun g hg=>by cases hg) (fun a _ hm=>by cases hm) (h.tabs.below hb) (h.st.below hb)
def rq1 (X:Dw) (Y:Yw) (w w1:World) (S1:Sd) (V1:Sv):Prop:=∃X1 Y1,X1.d=X.d∧Y1.s=Y.s∧SvAt w1 X1 S1 Y1 V1∧Chg (XY X Y) w w1∧∀g∈XY X1 Y1,g∈XY X Y∨w.heap.size≤g
def cv1 (X:Dw) (Y:Yw) (w:World) (R:Sd×Sv×Nat) (e:Ending) (w1:World):Prop:=e=.returned (.int .i64 (R.2.2:Int))∧rq1 X Y w w1 R.1 R.2.1
theorem rq1.same (h:SvAt w X S Y V) (hb:Below w.heap.size w w1):rq1 X Y w w1 S V:=⟨X,Y,rfl,rfl,h.below hb,Chg.of_below hb _,fun _ hg=>.inl hg⟩
theorem rq1.trans (e1:X1.d=X.d) (e2:Y1.s=Y.s) (c:Chg (XY X Y) w w1) (hf:∀g∈XY X1 Y1,g∈XY X Y∨w.heap.size≤g) (k:rq1 X1 Y1 w1 w2 S2 V2):rq1 X Y w w2 S2 V2:=by
 obtain⟨X2,Y2,e3,e4,h,c2,hf2⟩:=k;refine⟨X2,Y2,e3.trans e1,e4.trans e2,h,c.trans c2 hf,fun g hg=>?_⟩
 rcases hf2 g hg with h1|h1
 ·exact hf g h1
 ·exact .inr (h_ c.size h1)
theorem SvAt.disk (h:SvAt w X S Y V) (hu:UpdM X w w1 S1):∃X1,X1.d=X.d∧SvAt w1 X1 S1 Y V∧Chg (XY X Y) w w1∧(∀g∈XY X1 Y,g∈XY X Y∨w.heap.size≤g):=by
 obtain⟨X1,e,hd,c,hf⟩:=hu;have hn:∀g∈Y.foot,g∉X.foot:=h.apart.x;have hc2:Chg (XY X Y) w w1:=c.mono fun g hg=>.inl (s_ _ hg);have hf2:∀g∈XY X1 Y,g∈XY X Y∨w.heap.size≤g:=fun g hg=>by
  rcases q_.1 hg with h1|h1
  ·rcases hf g h1 with h2|h2
   ·exact .inl (s_ _ h2)
   ·exact .inr h2
  ·exact .inl (k_ _ h1)
 refine⟨X1,e,⟨hd,by rw[e];exact h.box.chg c (hn _ (Yw.aj.2 (.inl rfl))),by rw[e];exact h.man.chg c (hn _ (Yw.aj.2 (.inr (.inl rfl)))),h.row.step c hf,h.pout,by rw[e];exact h.log.chg c (hn _ (Yw.aj.2 (.inr (.inr (.inl rfl))))),h.mem.chg c (fun g hg=>hn g (Yw.aj.2 ?_)),h.its,h.tabs.step hc2 hf2,h.st.step hc2 hf2,⟨fun g hg hm=>?_,h.apart.s,h.apart.m,h.apart.g⟩,h.ng⟩,hc2,hf2⟩
 ·rcases g_.1 hg with rfl|hg
  ·exact .inr (.inr (.inr (.inl rfl)))
  ·exact .inr (.inr (.inr (.inr hg)))
 ·rcases hf g hm with h1|h1
  ·exact hn g hg h1
  ·have:=h.ylt g hg
   omega
theorem SvAt.kw5 (h:SvAt w X S Y V):Y.m∉X.foot:=h.apart.x _ (Yw.aj.2 (.inr (.inl rfl)))
theorem SvAt.gst (h:SvAt w X S Y V):Gst Y.P Y.m X w S V.M w X:=Gst.start h.dm h.man h.row h.kw5 (h.ng _ (Yw.aj.2 (.inr (.inl rfl))))
theorem SvAt.jw5 (h:SvAt w X S Y V) {M1:Gs} {P1:Sl} (k:Gst P1 Y.m X w S1 M1 w1 X1) (hP:P1=Y.P∨∀a,P1.a=some a→w.heap.size≤a.block):SvAt w1 X1 S1 { Y with P:=P1 } { V with M:=M1 }∧Chg (XY X Y) w w1∧∀g∈XY X1 { Y with P:=P1 },g∈XY X Y∨w.heap.size≤g:=by
 have hn:∀g∈Y.foot,g∉X.foot:=h.apart.x;have e:=k.acc.e;have hf:=k.acc.f;have c:Chg ([Y.m] ++X.foot) w w1:=k.acc.c;have hc2:Chg (XY X Y) w w1:=c.mono fun g hg=>.inl (by
  rcases q_.1 hg with h1|h1
  ·rw[c_.1 h1]
   exact k_ _ (Yw.aj.2 (.inr (.inl rfl)))
  ·exact s_ _ h1)
 have hf2:∀g∈XY X1 Y,g∈XY X Y∨w.heap.size≤g:=fun g hg=>by
  rcases q_.1 hg with h1|h1
  ·rcases hf g h1 with h2|h2
   ·exact .inl (s_ _ h2)
   ·exact .inr h2
  ·exact .inl (k_ _ h1)
 have hm:∀g∈Y.foot,g≠Y.m→g∉[Y.m] ++X.foot:=fun g hg hne hmm=>by
  rcases q_.1 hmm with h1|h1
  ·exact hne (c_.1 h1)
  ·exact hn g hg h1
 have aps:=h.apart.s;have am:=h.apart.m;refine⟨⟨k.acc.dm,by rw[e];exact h.box.chg c (hm _ (Yw.aj.2 (.inl rfl)) (fun e=>aps (by rw[e];exact m_))),by rw[e];exact k.man,k.row,fun j hj a ha=>?_,by rw[e];exact h.log.chg c (hm _ (Yw.aj.2 (.inr (.inr (.inl rfl)))) (fun e=>am (by rw[←e];exact m_))),h.mem.chg c (fun g hg=>hm g (Yw.aj.2 ?_) (fun e=>am (by rw[←e];exact f_ _ hg))),h.its,h.tabs.step hc2 hf2,h.st.step hc2 hf2,⟨fun g hg hmm=>?_,aps,am,h.apart.g⟩,h.ng⟩,hc2,hf2⟩
 ·rcases hP with rfl|hP
  ·refine h.pout j ?_ a ha
   have l1:=k.row.row.len;have l2:=h.row.row.len;rw[l2,←l1];exact hj
  ·intro hmm
   have:=h.ylt _ hmm;have:=hP a ha;omega
 ·rcases g_.1 hg with rfl|hg
  ·exact .inr (.inr (.inr (.inl rfl)))
  ·exact .inr (.inr (.inr (.inr hg)))
 ·rcases hf g hmm with h1|h1
  ·exact hn g hg h1
  ·have:=h.ylt g hg
   omega
theorem SvAt.sbox (h:SvAt w X S Y V) (c:Chg [Y.s] w w1) (hx:BoxO w1 153 Y.s (Y1.cells X.d V1)) (e1:Y1={ Y with A:=Y1.A }) (e2:V1={ V with only:=V1.only,st:=V1.st }) (hs:qx (XY X Y) w1 fun w=>Its 0 w Y1.A.a Y1.A.n Y1.A.c V1.st):SvAt w1 X S Y1 V1∧Chg (XY X Y) w w1:=by
 have hc2:Chg (XY X Y) w w1:=c.mono fun g hg=>.inl (by
  rw[c_.1 hg];exact k_ _ (Yw.aj.2 (.inl rfl)))
 have hm:∀g∈Y.m::Y.g::Y.mm::skF Y.L Y.ns,g∉[Y.s]:=fun g hg hmm=>h.apart.s (by rw[←c_.1 hmm];exact hg);obtain⟨A1,ho,hs1,hv⟩:∃A1:Sl,∃b:Bool,∃l:List It,A1=Y1.A∧b=V1.only∧l=V1.st:=⟨_,_,_,rfl,rfl,rfl⟩;obtain⟨q1,q2,q3⟩:=hv;rw[←q1]at e1;rw[←q2,←q3]at e2;subst e1 e2;refine⟨⟨h.dm.chg c (fun g hg=>by rw[c_.1 hg];exact⟨h.apart.x _ (Yw.aj.2 (.inl rfl)),h.ng _ (Yw.aj.2 (.inl rfl))⟩),hx,h.man.chg c (hm _ m_),?_,h.pout,h.log.chg c (hm _ (f_ _ m_)),h.mem.chg c (fun g hg=>hm _ (f_ _ (f_ _ hg))),h.its,h.tabs.step hc2 (fun g hg=>.inl hg),hs,⟨h.apart.x,h.apart.s,h.apart.m,h.apart.g⟩,h.ng⟩,hc2⟩;exact⟨(oq c h.row.row l_ (fun j hj a ha hmm=>h.pout j hj a ha (by rw[c_.1 hmm];exact Yw.aj.2 (.inl rfl)))).up c.size,h.row.nc,h.row.cm,h.row.nb,h.row.away⟩
theorem SvAt.scr (h0:SvAt w X S Y V) (h:SvAt w1 X1 S1 Y V) (c:Chg (XY X Y) w w1) (hf:∀g∈XY X1 Y,g∈XY X Y∨w.heap.size≤g) {G:List Nat} (hG:∀g∈G,w.heap.size≤g∧g∉XY X1 Y) (c2:Chg G w1 w2):SvAt w2 X1 S1 Y V:=by
 have c3:Chg (XY X Y) w w2:=c.trans c2 fun g hg=>.inr (hG g hg).1;have hb:=h0.dm.env.base;have hn:∀g∈Y.foot,g∉G:=fun g h1 h2=>(hG g h2).2 (k_ _ h1);refine⟨h.dm.chg c2 (fun g hg=>⟨fun hm=>(hG g hg).2 (s_ _ hm),by have:=(hG g hg).1;omega⟩),h.box.chg c2 (hn _ (Yw.aj.2 (.inl rfl))),h.man.chg c2 (hn _ (Yw.aj.2 (.inr (.inl rfl)))),?_,h.pout,h.log.chg c2 (hn _ (Yw.aj.2 (.inr (.inr (.inl rfl))))),h.mem.chg c2 (fun g hg=>hn g (Yw.aj.2 ?_)),h.its,h0.tabs.step c3 hf,h0.st.step c3 hf,h.apart,h.ng⟩
 ·refine⟨(oq c2 h.row.row l_ (fun j hj a ha hm=>?_)).up c2.size,h.row.nc,h.row.cm,h.row.nb,h.row.away⟩
  obtain⟨b,e,q1,_⟩:=h0.row.row.cell j hj;rw[ha]at e;injection e with e;subst e;have:=(hG _ hm).1;omega
 ·rcases g_.1 hg with rfl|hg
  ·exact .inr (.inr (.inr (.inl rfl)))
  ·exact .inr (.inr (.inr (.inr hg)))
end
section
open Go Go.RowKit Go.Lib Go.Shelf
variable {w w1 w2:World} {X X1 X2:Dw} {S S1 S2:Sd} {Y Y1 Y2:Yw} {V V1 V2:Sv}
theorem qv3 (s k:List UInt8) (hk:k=Mn.kLog∨k=Mn.kTab):0≤(Mn.number s k).getD 0∧(Mn.number s k).getD 0≤1073741824:=by
 cases h:Mn.number s k with
 |none=>exact⟨by simp,by simp⟩
 |some v=>
  have hs:s≠[]:=fun e=>by
   subst e
   rcases hk with rfl|rfl<;>
   ·unfold Mn.number at h
    rw[if_neg (by decide)]at h
    cases h
  have:=Mn.aq2 h hs;exact⟨by simp;omega,by simp;omega⟩
theorem cq1 (k:List UInt8) (hk:k=Mn.kLog∨k=Mn.kTab):∀(l:List (List UInt8)) (a:Int),0≤a→a≤1073741824→0≤l.foldl (fun m s=>max m ((Mn.number s k).getD 0)) a∧l.foldl (fun m s=>max m ((Mn.number s k).getD 0)) a≤1073741824
 |[],a,h1,h2=>⟨h1,h2⟩
 |s::r,a,h1,h2=>by
  obtain⟨h3,h4⟩:=qv3 s k hk;simp only[bj_];exact cq1 k hk r _ (by omega) (by omega)
theorem kz44 {P S a oi v} (h:Hv P S a oi v:=by intro w hSw;(have k0:=(HX.out.below hSw).cell 0;simp only[Yw.cells,gE0,gE1]at k0);go_simp;try (with_reducible rfl)):Hv P S a oi v:=h
theorem wy1 (h:SvAt w X S Y V):
  Calls Tryz.prog 213 #[.pointer (some ⟨Y.s,0,none⟩)] w fun e w'=>e=.returned (if 1073741824 < St.number S then .tuple #[.int .i64 0,.int .i64 65] else .tuple #[.int .i64 (St.number S),.int .i64 0])∧Below w.heap.size w w':=by
 have hg:=fun(k:List UInt8) (hk:k.length≤1000) (W:World) (hb:Below w.heap.size w W)=>qv2 X S (str k) (by rw[kz];exact hk) W (h.dm.below hb);have hg1:=hg Mn.kLog (by decide);have hg2:=hg Mn.kTab (by decide);rw[nz]at hg1 hg2;rw[show str Mn.kLog=({ data:=#[108,111,103] }:ByteArray) from rfl]at hg1;rw[show str Mn.kTab=({ data:=#[116,97,98] }:ByteArray) from rfl]at hg2;have hr1:0≤Mn.greatest S.list Mn.kLog∧Mn.greatest S.list Mn.kLog≤1073741824:=cq1 Mn.kLog (.inl rfl) S.list 0 (by omega) (by omega);have hr2:0≤Mn.greatest S.list Mn.kTab∧Mn.greatest S.list Mn.kTab≤1073741824:=cq1 Mn.kTab (.inr rfl) S.list 0 (by omega) (by omega);unfold St.number;generalize Mn.greatest S.list Mn.kLog=a at *;generalize Mn.greatest S.list Mn.kTab=b at *;obtain⟨c,hc⟩:=n_ (max a b);have hcr:0≤c∧c≤1073741824:=by omega
 rw[←hc];have H1:=H_ hg1;have H2:=H_ hg2;have HX:=H_ h.box;have HC:=H_ hc;clear hg hg1 hg2 h hc
 by_cases hlt:1073741824 < c+1
 all_goals
 ·simp only[hlt,if_true,if_false]
  go_enter Tryz.func213,Tryz.ntmps213;go_wp2_with fail;refine wp_region_held_drew (S:=fun w'=>Below w.heap.size w w') rfl (ak b0_) (fun hSw=>?_);refine w_v 0 hSw ?_ (k:=kz44);go_simp;refine w_v 1 hSw ?_ (k:=kz44);go_simp;refine w_v 2 hSw ?_ (k:=kz44);go_simp;refine w_v 3 hSw ?_ (k:=kz44);go_simp;refine w_v 5 hSw ?_ (k:=kz44);go_simp;refine w_v 6 hSw ?_ (k:=kz44);go_simp;refine w_v 7 hSw ?_ (k:=kz44);go_simp;refine w_v 8 hSw ?_ (k:=kz44);go_simp;refine w_r 4 fun K hK=>?_;go_simp
  with_reducible refine(H1.out _ hSw).mono ?_
  rintro e w3 ⟨rfl,hb3⟩;go_simp;refine hK.out _ _ (az hSw hb3) ?_;clear hSw hK K;intro hSw;go_simp;refine w_r 9 fun K hK=>?_;go_simp
  with_reducible refine(H2.out _ hSw).mono ?_
  rintro e w4 ⟨rfl,hb4⟩;go_simp;refine hK.out _ _ (az hSw hb4) ?_;clear hSw hK K;intro hSw;go_simp;refine w_r 10 fun K hK=>?_
  skip
  go_simp;refine hK.out _ _ hSw ?_;clear hSw hK K;intro hSw;go_simp;refine w_v 11 hSw ?_ (k:=kz44);go_simp;refine w_v 12 hSw ?_ (k:=kz44);go_simp;refine wpAnyH_done (by kernel_rfl) ?_ _;have hw:IntKind.i64.wrap (c+1)=c+1:=F_ _ (by omega);rw[←HC.out,hw];have hbz:=az (az (ak b0_) hb3) hb4;clear hSw hb3 hb4 H1 H2 HX;go_wp2;go_ret2;exact⟨rfl,hbz⟩
theorem jq2 (h:SvAt w X S Y V) (er:Nat):
  Calls Tryz.prog 139 #[.pointer (some ⟨Y.s,0,none⟩),.int .i64 (er:Int)] w fun e w'=>e=.returned (.int .i64 (er:Int))∧SvAt w' X S Y { V with only:=true }∧Chg (XY X Y) w w':=by
 have hbA:=b_ w (.cells #[.pointer (some ⟨Y.s,0,none⟩)] 51);have hlt:=h.box.lt;have h1:=h.below hbA;have hp:(w.alloc (.cells #[.pointer (some ⟨Y.s,0,none⟩)] 51)).cell? ⟨w.heap.size,0,none⟩=some (.pointer (some ⟨Y.s,0,none⟩)):=by simp
 obtain⟨W,hW⟩:=n_ (w.alloc (.cells #[.pointer (some ⟨Y.s,0,none⟩)] 51));rw[←hW]at hbA h1 hp;have HV:=H_ hW;clear hW;have c7:=h1.box.cell 7;have c8:=h1.box.cell 8;have c10:=h1.box.cell 10;simp only[Yw.cells,gE0,gE1]at c7 c8 c10;have hmf:∀(fn:Fn) (first cap:Array Value) (w:World),(Instr.makeFunc fn first cap).run Tryz.prog w=.ok (.func fn first cap) w:=fun _ _ _ _=>rfl
 cases hb:V.only with
 |false=>
  rw[hb]at c7 c10;simp only[ao_,if_false]at c7;have hdo:=Sonce.do_first Y.s ⟨w.heap.size,0,none⟩ (by simp;omega) _ W hp c7 c8 c10 (h1.box.free 7) (h1.box.free 8) (h1.box.free 10);have hbx:=((((h1.box.store 8 (.int .i32 1)).store 10 (.bool true)).drew.store 7 (.int .u32 1)).store 8 (.int .i32 0));have hcc:Chg [Y.s] W ((((W.setCell ⟨Y.s,8,none⟩ (.int .i32 1)).setCell ⟨Y.s,10,none⟩ (.bool true)).drew.setCell ⟨Y.s,7,none⟩ (.int .u32 1)).setCell ⟨Y.s,8,none⟩ (.int .i32 0)):=(((((Chg.refl [Y.s] W).setCell _ (.inl (by simp))).setCell _ (.inl (by simp))).drew).setCell _ (.inl (by simp))).setCell _ (.inl (by simp));have hfin:=h1.sbox (Y1:=Y) (V1:={ V with only:=true }) hcc hbx rfl rfl (h1.st.step (hcc.mono fun g hg=>.inl (by rw[c_.1 hg];exact k_ _ (Yw.aj.2 (.inl rfl)))) (fun g hg=>.inl hg));have HR:=H_ (d_ hfin.1 ((Chg.of_below hbA (XY X Y)).trans hfin.2 (fun g hg=>.inl hg)));clear hfin hcc hbx hb h h1 hbA c10;go_enter Tryz.func139,Tryz.ntmps139;go_wp2_with fail;rw[←HV.out];refine hdo.mono ?_;rintro e w2 ⟨rfl,rfl⟩;go_wp2;go_ret;exact⟨rfl,HR.out⟩
 |true=>
  rw[hb]at c7;simp only[if_true]at c7;have hdo:=Once.do_done ⟨Y.s,7,none⟩ 1 (by omega) (.func (.func 215) #[] #[.pointer (some ⟨w.heap.size,0,none⟩)]) W c7;have e:({ V with only:=true }:Sv)=V:=by cases V;simp at hb;simp[hb]
  have HR:=H_ (d_ (show SvAt W X S Y { V with only:=true } by rw[e];exact h1) (Chg.of_below hbA (XY X Y)));clear hb h h1 hbA c10 e;go_enter Tryz.func139,Tryz.ntmps139;go_wp2_with fail;rw[←HV.out];refine hdo.mono ?_;rintro e w2 ⟨rfl,hw2⟩;obtain rfl:=hw2.symm;go_wp2;go_ret;exact⟨rfl,HR.out⟩
end
section
open Go Go.RowKit Go.Lib Go.Shelf
variable {w w1 w2:World} {X X1 X2:Dw} {S S1 S2:Sd} {Y Y1 Y2:Yw} {V V1 V2:Sv}
def hval (lev n:Int) (f:Nat):Value:=.agg #[.int .i64 lev,.int .i64 n,.pointer (some ⟨f,0,none⟩)]
def xy2 (X:Dw) (Y:Yw) (w:World) (V:Sv) (l:List It) (lev n:Int) (R:Sd×Nat) (e:Ending) (w':World):Prop:=∃(a b:Int) (p:Option Addr) (X':Dw),e=.returned (.tuple #[.agg #[.int .i64 a,.int .i64 b,.pointer p],.int .i64 (R.2:Int)])∧X'.d=X.d∧SvAt w' X' R.1 Y V∧Chg (XY X Y) w w'∧(∀g∈XY X' Y,g∈XY X Y∨w.heap.size≤g)∧(R.2=0→∃f,a=lev∧b=n∧p=some ⟨f,0,none⟩∧∀G,(∀g∈G,g∈XY X' Y∨g < w.heap.size)→qx G w' fun W=>TbAt W f (Tb.rows l))
structure Way (w0:World) (X0:Dw) (Y:Yw) (V:Sv) (w:World) (X:Dw) (S:Sd):Prop where
 at_:SvAt w X S Y V
 d:X.d=X0.d
 c:Chg (XY X0 Y) w0 w
 f:∀g∈XY X Y,g∈XY X0 Y∨w0.heap.size≤g
theorem Way.start (h:SvAt w X S Y V):Way w X Y V w X S:=⟨h,rfl,Chg.refl _ _,fun _ hg=>.inl hg⟩
theorem Way.below {w0:World} {X0:Dw} (k:Way w0 X0 Y V w X S) (hb:Below w.heap.size w w1):Way w0 X0 Y V w1 X S:=⟨k.at_.below hb,k.d,k.c.trans (Chg.of_below hb []) (fun g hg=>by cases hg),k.f⟩
theorem Way.disk {w0:World} {X0:Dw} (k:Way w0 X0 Y V w X S) (hu:UpdM X w w1 S1):∃X1,X1.d=X.d∧Way w0 X0 Y V w1 X1 S1∧Chg (XY X Y) w w1∧∀g∈XY X1 Y,g∈XY X Y∨w.heap.size≤g:=by
 obtain⟨X1,e,h1,c1,f1⟩:=k.at_.disk hu;refine⟨X1,e,⟨h1,e.trans k.d,k.c.trans c1 k.f,fun g hg=>?_⟩,c1,f1⟩
 rcases f1 g hg with q|q
 ·exact k.f g q
 ·exact .inr (h_ k.c.size q)
theorem Way.scr {w0:World} {X0:Dw} {S0:Sd} (h0:SvAt w0 X0 S0 Y V) (k:Way w0 X0 Y V w X S) {G:List Nat} (hG:∀g∈G,w0.heap.size≤g∧g∉XY X Y) (c2:Chg G w w1):Way w0 X0 Y V w1 X S:=
 ⟨h0.scr k.at_ k.c k.f hG c2,k.d,k.c.trans c2 fun g hg=>.inr (hG g hg).1,k.f⟩
theorem Way.upd {w0:World} {X0:Dw} (k:Way w0 X0 Y V w X S):rq1 X0 Y w0 w S V:=⟨X,Y,k.d,rfl,k.at_,k.c,k.f⟩
theorem cg3 (g:Nat) (w:World) (a b c:Value):Chg [g] w (((w.setCell ⟨g,0,none⟩ a).setCell ⟨g,1,none⟩ b).setCell ⟨g,2,none⟩ c):=
 (((Chg.refl [g] w).setCell _ (.inl (by simp))).setCell _ (.inl (by simp))).setCell _ (.inl (by simp))
theorem Tb.ey3 {l:List It} (h:l.length≤2000):(Tb.make l).length≤100000:=by
 have h1:(Tb.rows l).length≤100:=by
  have:=Tb.wk1 20 (by omega) l.length l;unfold Tb.rows;omega
 have h2:=Tb.ry1 (Tb.rows l) (fun r hr=>(Tb.nk2 20 (by omega) _ _ r hr).2.1);have h3:=Tb.oq1 0 (Tb.rows l);have h4:=Tb.iv3 l h;unfold Tb.make;simp only[e_,Fr.uj];have p1:=Pn.ik (Tb.blocks (Tb.rows l)).length;have p2:=Pn.ik ((Tb.blocks (Tb.rows l)).length+((Tb.index 0 (Tb.rows l)).length+12));have p3:=Pn.ik l.length;omega
theorem oy1 (S:Sd):1≤St.number S∧St.number S≤1073741825:=by
 have hr1:0≤Mn.greatest S.list Mn.kLog∧Mn.greatest S.list Mn.kLog≤1073741824:=cq1 Mn.kLog (.inl rfl) S.list 0 (by omega) (by omega);have hr2:0≤Mn.greatest S.list Mn.kTab∧Mn.greatest S.list Mn.kTab≤1073741824:=cq1 Mn.kTab (.inr rfl) S.list 0 (by omega) (by omega);unfold St.number;omega
theorem pj1 (k:List UInt8) (n:Int):(Mn.name k n).length≤1000:=by
 by_cases hne:Mn.name k n=[]
 ·rw[hne];simp
 ·have:=Mn.pk2 hne
  omega
theorem gz2 (h:SvAt w X S Y V) (L:Option Addr) (m d:Nat) (l:List It) (hm:m≤2000) (hmd:m≤d) (hq:Row w.heap.size w L m 5 (itc l)) (hf:∀x∈l,x.fit) (hgd:Tb.good l=true) (lev:Int) (hld:S.load≤1000000000000):
  Calls Tryz.prog 133 #[.pointer (some ⟨Y.s,0,none⟩),.slice L m d,.int .i64 lev] w (xy2 X Y w V l lev (St.number S) (St.write S l)):=by
 have hml:=hq.uz;have hbA:=b_ w (.cells #[.int .i64 0,.int .i64 0,.pointer none] 173);have hbx:=BoxO.new w #[.int .i64 0,.int .i64 0,.pointer none] 173;obtain⟨W,hW⟩:=n_ (w.alloc (.cells #[.int .i64 0,.int .i64 0,.pointer none] 173));obtain⟨gr,hgr⟩:=n_ w.heap.size;rw[←hgr]at hbx;rw[←hW]at hbA hbx;have hxlt:∀g∈XY X Y,g < w.heap.size:=h.lt;have k1:Way w X Y V W X S:=(Way.start h).below hbA;have hmk:=ek2 L m d l W (by omega) hmd ((hq.below hbA).up hbA.size) hf;obtain⟨n,hn⟩:=n_ (St.number S);have hnr:=oy1 S;have hnn:(Mn.name Mn.kTab n).length≤1000:=pj1 _ _;obtain⟨R,hR⟩:=n_ (St.write S l);unfold St.write at hR;have hR0:St.write S l=R:=by rw[hR];rfl
 rw[hR0];rw[←hn]at hR hnr ⊢;have hln:l.length≤2000:=by omega
 have hMl:=Tb.ey3 hln;have hop:=Tb.ew4 hgd hf;have hgl:=hbx.lt;have hend:∀(w':World) (X':Dw) (S':Sd) (er:Nat),Way w X Y V w' X' S'→gr∉XY X' Y→er≠0→R=(S',er)→xy2 X Y w V l lev n R (.returned (.tuple #[.agg #[.int .i64 0,.int .i64 0,.pointer none],.int .i64 (er:Int)])) (((w'.setCell ⟨gr,0,none⟩ (.int .i64 0)).setCell ⟨gr,1,none⟩ (.int .i64 0)).setCell ⟨gr,2,none⟩ (.pointer none)):=by
  intro w' X' S' er k hx hne he;have hke:=Way.scr h k (G:=[gr]) (fun g hg=>by rw[c_.1 hg];exact⟨by omega,hx⟩) (cg3 gr w' (.int .i64 0) (.int .i64 0) (.pointer none));rw[he];exact⟨_,_,_,_,rfl,hke.d,hke.at_,hke.c,hke.f,fun h0=>absurd h0 hne⟩
 have hendT:∀(w':World) (X':Dw) (S':Sd) (er f:Nat),Way w X Y V w' X' S'→gr∉XY X' Y→(∀G W,(∀g∈G,g∈XY X' Y∨g < w.heap.size)→Chg G (((w'.setCell ⟨gr,0,none⟩ (.int .i64 lev)).setCell ⟨gr,1,none⟩ (.int .i64 n)).setCell ⟨gr,2,none⟩ (.pointer (some ⟨f,0,none⟩))) W→TbAt W f (Tb.rows l))→R=(S',er)→xy2 X Y w V l lev n R (.returned (.tuple #[hval lev n f,.int .i64 (er:Int)])) (((w'.setCell ⟨gr,0,none⟩ (.int .i64 lev)).setCell ⟨gr,1,none⟩ (.int .i64 n)).setCell ⟨gr,2,none⟩ (.pointer (some ⟨f,0,none⟩))):=by
  intro w' X' S' er f k hx ht he;have hke:=Way.scr h k (G:=[gr]) (fun g hg=>by rw[c_.1 hg];exact⟨by omega,hx⟩) (cg3 gr w' (.int .i64 lev) (.int .i64 n) (.pointer (some ⟨f,0,none⟩)));rw[he];exact⟨_,_,_,_,rfl,hke.d,hke.at_,hke.c,hke.f,fun _=>⟨f,rfl,rfl,rfl,fun G hG W c=>ht G W hG c⟩⟩
 have HEND:=H_ hend;have HENDT:=H_ hendT;clear hend hendT;have HV:=H_ hW;have HG:=H_ hgr;have HMK:=H_ hmk;have HR:=H_ hR;have HOP:=H_ hop;have HN:=H_ hn;have HX:=H_ hxlt;have HML:=H_ (d_ hml hMl);clear hmk hR hR0 hop hn hxlt hMl hln hml hq hbA hgr hW;go_enter Tryz.func133,Tryz.ntmps133;go_wp2_with fail;rw[←HV.out,←HG.out]
 with_reducible refine HMK.out.mono ?_
 rintro e w2 (⟨_,A',M,c',rfl,ho,hMc,hcm,hb2⟩|⟨hbad,_⟩)
 rotate_left
 ·rw[hgd]at hbad
  cases hbad
 have k2:=k1.below hb2;have FX2:qx (XY X Y) w2 fun W'=>BoxO W' 173 gr #[.int .i64 0,.int .i64 0,.pointer none].toList∧Row W'.heap.size W' A' M 1 (bts (Tb.make l)):=by
  obtain⟨P,c0,q1,q2,q3,q4⟩:=dw ho;injection q1 with q1 _ _;subst q1;have hbw:=hbx.below hb2;have hrw:=Row.own ho;refine qx.and (fun W' c=>hbw.chg c (fun hm=>?_)) (fun W' c=>(oq c hrw l_ (fun j _ a ha hm=>?_)).up c.size)
  ·have:=HX.out _ hm
   have:=HG.out;omega
  ·have:=HX.out _ hm
   have:=(q4 a ha).1;have:=HG.out;have:=hbx.lt;omega
 have HLO:Hid (∀a,A'=some a→W.heap.size≤a.block∧a.block < w2.heap.size):=H_ (by
  obtain⟨P,c0,q1,q2,q3,q4⟩:=dw ho;injection q1 with q1 _ _;subst q1;exact fun a ha=>⟨(q4 a ha).1,(q4 a ha).2.1⟩)
 have HM5:Hid (M=(Tb.make l).length):=H_ (by
  have:=ho.1;rw[pq]at this;omega)
 have HNU:=H_ (wy1 k2.at_);have HK1:=H_ k1;clear k1 hbx HMK ho;go_wp2_with fail
 with_reducible refine HNU.out.mono ?_
 rintro e w3 ⟨rfl,hb3⟩;rw[←HN.out];have k3:=k2.below hb3;have FX3:=FX2.below hb3;have hgx:∀X',(∀g∈XY X' Y,g∈XY X Y∨w2.heap.size≤g)→gr∉XY X' Y:=fun X' hf hm=>by
  have q1:=HG.out;have q2:=FX2.now.1.lt
  rcases hf _ hm with q|q
  ·have:=HX.out _ q
   omega
  ·omega
 have HGX:=H_ hgx;clear hgx;have hR:=HR.out
 by_cases hbig:1073741824 < n
 ·rw[if_pos hbig]
  rw[if_pos hbig]at hR;have HZ:=H_ (HEND.out _ _ _ 65 k3 (HGX.out X (fun g hg=>.inl hg)) (by omega) hR);have hbq:=FX3.now.1;have s0:=hbq.c0;have s1:=hbq.c1;have s2:=hbq.c2;have z0:=hbq.free 0;have z1:=hbq.free 1;have z2:=hbq.free 2;clear hbq;clear HEND HENDT hR;go_wp2;exact bodyPost_ret (v:=.tuple #[.agg #[.int .i64 0,.int .i64 0,.pointer none],.int .i64 (65:Int)]) (by simp[results,go_sem, *]) rfl HZ.out
 ·rw[if_neg hbig]
  rw[if_neg hbig]at hR;have hnm:=name_any (str Mn.kTab) (by rw[kz];decide) n (by omega) w3 k3.at_.dm.env;rw[nz]at hnm;rw[show str Mn.kTab=({ data:=#[116,97,98] }:ByteArray) from rfl]at hnm;obtain⟨nm,hnme⟩:=n_ (Mn.name Mn.kTab n);rw[←hnme]at hnm hR hnn;have HNM:=H_ hnm;have HR0:=H_ hR;clear hnm hnme hR;go_wp2_with fail
  with_reducible refine HNM.out.mono ?_
  rintro e w4 ⟨rfl,hb4⟩;have k4:=k3.below hb4;have FX4:=FX3.below hb4;have c0:=k4.at_.box.cell 0;simp only[Yw.cells,gE0,gE1]at c0;have hcr:=(Acc.start (F:=[]) k4.at_.dm).create (str nm) (by rw[kz];unfold maxLen;omega) (by omega);rw[nz]at hcr;obtain⟨a,ha⟩:=n_ (S.create nm);have hR:=HR0.out;rw[←ha]at hcr hR;obtain⟨S5,er5⟩:=a;simp only at hcr hR;have HCR:=H_ hcr;have HR1:=H_ hR;have HSZ:=H_ (show w2.heap.size≤w4.heap.size from h_ hb3.size hb4.size);clear hcr hR ha HR0 HR hb3 hb4 HNU HNM k3 k2 FX3;go_wp2_with fail
  with_reducible refine HCR.out.mono ?_
  rintro e w5 ⟨rfl,Xq,hq⟩;obtain⟨X5,-,k5,hc5,hf5⟩:=k4.disk hq.updM;have FX5:=FX4.step hc5 hf5;have hg5:gr∉XY X5 Y:=HGX.out X5 (fun g hg=>(hf5 g hg).imp id (fun q=>h_ HSZ.out q))
  by_cases he5:er5=0
  ·subst he5
   have hR:=HR1.out;rw[if_neg (by simp)]at hR;have c0:=k5.at_.box.cell 0;simp only[Yw.cells,gE0,gE1]at c0;have hap:=(Acc.start (F:=[]) k5.at_.dm).append (str nm) (by rw[kz];unfold maxLen;omega) A' M c' (Tb.make l) (by have:=HM5.out;have:=HML.out.2;omega) FX5.now.2 (fun a ha hm=>by
    have q1:=HLO.out a ha;have q2:=HV.out;have q3:=hgl;have q4:=HG.out
    rcases hf5 _ (s_ _ hm) with q|q
    ·have:=HX.out _ q
     omega
    ·have:=HSZ.out
     omega)
   rw[nz]at hap;obtain⟨a,ha⟩:=n_ (S5.append nm (Tb.make l));rw[←ha]at hap hR;obtain⟨S6,er6⟩:=a;simp only at hap hR;have HAP:=H_ hap;have HR2:=H_ hR;have HF5:=H_ (fun g hg=>(hf5 g hg).imp id (fun q=>h_ HSZ.out q):∀g∈XY X5 Y,g∈XY X Y∨w2.heap.size≤g);have HS5:=H_ (show w2.heap.size≤w5.heap.size from h_ HSZ.out hc5.size);clear hap hR ha HR1 HCR hq hc5 hf5 k4 FX4;go_wp2_with fail
   with_reducible refine HAP.out.mono ?_
   rintro e w6 ⟨rfl,Xq,hq⟩;obtain⟨X6,-,k6,hc6,hf6⟩:=k5.disk hq.updM;have FX6:=FX5.step hc6 hf6;have HF6:=H_ (fun g hg=>(by
    rcases hf6 g hg with q|q
    ·exact HF5.out g q
    ·exact .inr (h_ HS5.out q)):∀g∈XY X6 Y,g∈XY X Y∨w2.heap.size≤g)
   have hg6:gr∉XY X6 Y:=HGX.out X6 HF6.out
   by_cases he6:er6=0
   ·subst he6
    have hR:=HR2.out;rw[if_neg (by simp)]at hR;have htr:=py3 A' M c' (Tb.make l) w6 (by have:=HM5.out;have:=HML.out.2;omega) hMc hcm FX6.now.2;have HTR:=H_ htr;have HR3:=H_ hR;have HS6:=H_ (show w2.heap.size≤w6.heap.size from h_ HS5.out hc6.size);clear htr hR HAP HR2 hq hc6 hf6 k5 FX5 c0;go_wp2_with fail
    with_reducible refine HTR.out.mono ?_
    rintro e w7 ⟨hb7,(⟨hno,_⟩|⟨rs,hrs,f,rfl,hsm⟩)⟩
    ·rw[HOP.out]at hno
     cases hno
    rw[HOP.out]at hrs;injection hrs with hrs;subst hrs;have k7:=k6.below hb7;have FX7:=FX6.below hb7;have hlt6:=k6.at_.lt;have hgr6:gr < w6.heap.size:=FX6.now.1.lt;have hfx:∀W,Chg (List.range w6.heap.size) w7 W→TbAt W f (Tb.rows l):=fun W c=>hsm W (bz3.fw5 c fun g hg=>bP_.1 hg);have HL6:=H_ (d_ hlt6 (d_ hgr6 (show w.heap.size≤w6.heap.size from k6.c.size)));have c0:=k7.at_.box.cell 0;simp only[Yw.cells,gE0,gE1]at c0;have hsy:=(Acc.start (F:=[]) k7.at_.dm).sync (str nm) (by rw[kz];unfold maxLen;omega);rw[nz]at hsy;obtain⟨a,ha⟩:=n_ (S6.sync nm);have hR:=HR3.out;rw[←ha]at hsy hR;obtain⟨S8,er8⟩:=a;simp only at hsy hR;have HSY:=H_ hsy;have HR4:=H_ hR;have HFX:=H_ hfx;have HS7:=H_ (show w2.heap.size≤w7.heap.size from h_ HS6.out hb7.size);clear hsy hR ha HR3 HTR hsm hb7 k6 FX6 hlt6 hgr6 hfx;go_wp2_with fail
    with_reducible refine HSY.out.mono ?_
    rintro e w8 ⟨rfl,Xq,hq⟩;obtain⟨X8,-,k8,hc8,hf8⟩:=k7.disk hq.updM;have FX8:=FX7.step hc8 hf8;have hg8:gr∉XY X8 Y:=HGX.out X8 (fun g hg=>by
     rcases hf8 g hg with q|q
     ·exact HF6.out g q
     ·exact .inr (h_ HS7.out q))
    have hz:=HENDT.out w8 X8 S8 er8 f k8 hg8 (fun G W hG cW=>HFX.out W (((hc8.mono fun g hg=>.inl (bP_.2 (HL6.out.1 g hg))).trans (cg3 gr w8 (.int .i64 lev) (.int .i64 n) (.pointer (some ⟨f,0,none⟩))) (fun g hg=>.inl (by rw[c_.1 hg];exact bP_.2 HL6.out.2.1))).trans cW (fun g hg=>by
     rcases hG g hg with q|q
     ·exact(hf8 g q).imp (fun q=>bP_.2 (HL6.out.1 g q)) id
     ·exact .inl (bP_.2 (L_ q HL6.out.2.2))))) HR4.out
    have HZ:=H_ hz;have hbq:=FX8.now.1;have s0:=hbq.c0;have s1:=hbq.c1;have s2:=hbq.c2;have z0:=hbq.free 0;have z1:=hbq.free 1;have z2:=hbq.free 2;clear hbq hz HENDT HEND hg8 hc8 hf8 k8 FX8 HFX hq k7 FX7 c0 HSY HR4;go_wp2;exact bodyPost_ret (v:=.tuple #[hval lev n f,.int .i64 (er8:Int)]) (by simp[results,hval,go_sem, *]) rfl HZ.out
   ·have e6i:((er6:Int)==0)=false:=by simp;omega
    have hR:=HR2.out;rw[if_pos he6]at hR;have HZ:=H_ (HEND.out _ _ _ er6 k6 hg6 (by assumption) hR);have hbq:=FX6.now.1;have s0:=hbq.c0;have s1:=hbq.c1;have s2:=hbq.c2;have z0:=hbq.free 0;have z1:=hbq.free 1;have z2:=hbq.free 2;clear hbq;clear HEND HENDT hR;go_wp2;exact bodyPost_ret (v:=.tuple #[.agg #[.int .i64 0,.int .i64 0,.pointer none],.int .i64 ((er6:Nat):Int)]) (by simp[results,go_sem, *]) rfl HZ.out
  ·have e5i:((er5:Int)==0)=false:=by simp;omega
   have hR:=HR1.out;rw[if_pos he5]at hR;have HZ:=H_ (HEND.out _ _ _ er5 k5 hg5 (by assumption) hR);have hbq:=FX5.now.1;have s0:=hbq.c0;have s1:=hbq.c1;have s2:=hbq.c2;have z0:=hbq.free 0;have z1:=hbq.free 1;have z2:=hbq.free 2;clear hbq;clear HEND HENDT hR;go_wp2;exact bodyPost_ret (v:=.tuple #[.agg #[.int .i64 0,.int .i64 0,.pointer none],.int .i64 ((er5:Nat):Int)]) (by simp[results,go_sem, *]) rfl HZ.out
end
section
open Go Go.RowKit Go.Lib Go.Shelf
variable {w w1 w2:World} {X X1 X2:Dw} {S S1 S2:Sd} {Y Y1 Y2:Yw} {V V1 V2:Sv}
def my3 (X:Dw) (Y:Yw) (w w':World) (S':Sd) (V':Sv):Prop:=∃X' P',X'.d=X.d∧SvAt w' X' S' { Y with P:=P' } V'∧Chg (XY X Y) w w'∧(∀g∈XY X' Y,g∈XY X Y∨w.heap.size≤g)∧(P'=Y.P∨∀a,P'.a=some a→w.heap.size≤a.block)
theorem kz35 {P S a oi v} (h:Hv P S a oi v:=by intro w hSw;(have k1:=hSw.1.cell 1;have e0:=hSw.2.cell 0;have e1:=hSw.2.cell 1;have e2:=hSw.2.cell 2;have e3:=hSw.2.cell 3;have e4:=hSw.2.cell 4;have e5:=hSw.2.cell 5;have e6:=hSw.2.cell 6;simp only[Yw.cells,gE0,gE1]at k1 e0 e1 e2 e3 e4 e5 e6);go_simp;try (with_reducible rfl)):Hv P S a oi v:=h
theorem pv2 (h:SvAt w X S Y V) (x:Ed) (D:Option Addr) (dm dd:Nat) (A2:Option Addr) (n2 c2:Nat) (hdm:dm≤1000000) (hn2:n2≤1000000) (hrd:Row w.heap.size w D dm 1 (vk x.drop)) (hra:Row w.heap.size w A2 n2 2 (ax x.add)) (hvf:V.M.v.files.length≤40)
  (hc0:V.M.count≤1000000000) (hnl:V.M.name.length≤1000):
  Calls Tryz.prog 123 #[.pointer (some ⟨Y.s,0,none⟩),x.val D dm dd A2 n2 c2] w fun e w'=>e=.returned (.int .i64 ((St.saved S V x).2.2:Int))∧my3 X Y w w' (St.saved S V x).1 (St.saved S V x).2.1:=by
 have hbA:=b_ w (.cells #[.slice D dm dd,.slice A2 n2 c2,.int .i64 x.log,.int .u64 (x.floor:Int),.int .u64 (x.cert:Int),.int .u64 (x.at_:Int),.int .u64 (x.lease:Int)] 194);have hbx:=BoxO.new w #[.slice D dm dd,.slice A2 n2 c2,.int .i64 x.log,.int .u64 (x.floor:Int),.int .u64 (x.cert:Int),.int .u64 (x.at_:Int),.int .u64 (x.lease:Int)] 194;have h1:=h.below (ak hbA);have hrd1:=(hrd.below (ak hbA)).up hbA.size;have hra1:=(hra.below (ak hbA)).up hbA.size;have hsz:∀g∈XY X Y,g < w.heap.size:=h.lt;obtain⟨W,hW⟩:=n_ (w.alloc (.cells #[.slice D dm dd,.slice A2 n2 c2,.int .i64 x.log,.int .u64 (x.floor:Int),.int .u64 (x.cert:Int),.int .u64 (x.at_:Int),.int .u64 (x.lease:Int)] 194));obtain⟨ge,hge⟩:=n_ w.heap.size;rw[←hge]at hbx;rw[←hW]at hbA hbx h1 hrd1 hra1;have hsv:=ez4 x D dm dd A2 n2 c2 hdm hn2 hrd1 hra1 (by rw[h.plen];exact hvf) hc0 hnl h1.gst;obtain⟨R,hR⟩:=n_ (Gw.save S V.M x);have hT:St.saved S V x=(R.1,{ V with M:=R.2.1,only:=V.only||R.2.1.broken },R.2.2):=by rw[hR];rfl
 rw[←hR]at hsv;rw[hT];obtain⟨S1,M1,er⟩:=R;show Calls Tryz.prog 123 #[.pointer (some ⟨Y.s,0,none⟩),x.val D dm dd A2 n2 c2] w fun e w'=>e=.returned (.int .i64 (er:Int))∧my3 X Y w w' S1 { V with M:=M1,only:=V.only||M1.broken }
 unfold ey1 at hsv;simp only at hsv;have hout:Y.s∉[Y.m] ++X.foot∧ge∉[Y.m] ++X.foot:=⟨fun hm=>by
  rcases q_.1 hm with q|q
  ·exact h.apart.s (by rw[c_.1 q];exact m_)
  ·exact h.apart.x _ (Yw.aj.2 (.inl rfl)) q,fun hm=>by
  rcases q_.1 hm with q|q
  ·have:=hsz Y.m (k_ _ (Yw.aj.2 (.inr (.inl rfl))))
   have:=c_.1 q;omega
  ·have:=hsz _ (s_ _ q)
   omega⟩
 have HV:=H_ hW;have HG:=H_ hge;have HSV:=H_ hsv;have HO:=H_ hout;have H1:=H_ h1;have HB:=H_ (Chg.of_below (ak hbA) (XY X Y));have HS0:Hid (BoxO W.drew 153 Y.s (Y.cells X.d V)∧BoxO W.drew 194 ge #[.slice D dm dd,.slice A2 n2 c2,.int .i64 x.log,.int .u64 (x.floor:Int),.int .u64 (x.cert:Int),.int .u64 (x.at_:Int),.int .u64 (x.lease:Int)].toList):=H_ ⟨h1.box,hbx⟩;clear hsv hW hge h h1 hrd hra hrd1 hra1 hbA hbx hout hsz hR hT;unfold Ed.val at *;go_enter Tryz.func123,Tryz.ntmps123;go_wp2_with fail;rw[←HV.out,←HG.out];refine wp_region_held_drew (S:=fun w'=>BoxO w' 153 Y.s (Y.cells X.d V)∧BoxO w' 194 ge #[.slice D dm dd,.slice A2 n2 c2,.int .i64 x.log,.int .u64 (x.floor:Int),.int .u64 (x.cert:Int),.int .u64 (x.at_:Int),.int .u64 (x.lease:Int)].toList) rfl HS0.out (fun hSw=>?_);refine w_v 0 hSw ?_ (k:=kz35);go_simp;refine w_v 1 hSw ?_ (k:=kz35);go_simp;refine w_v 2 hSw ?_ (k:=kz35);go_simp;refine w_v 3 hSw ?_ (k:=kz35);go_simp;refine w_v 4 hSw ?_ (k:=kz35);go_simp;refine w_r 5 fun K hK=>?_;go_simp
 with_reducible refine HSV.out.mono ?_
 rintro e w3 ⟨rfl,P3,X3,h3,hP3⟩;go_simp;refine hK.out _ _ ⟨hSw.1.chg h3.acc.c HO.out.1,hSw.2.chg h3.acc.c HO.out.2⟩ ?_;clear hSw hK K;intro hSw;go_simp;refine w_v 6 hSw ?_ (k:=kz35);go_simp;refine wpAnyH_done (by kernel_rfl) ?_ _;obtain⟨hs,hc3,hf3⟩:=H1.out.jw5 h3 hP3;have c1:=hs.box.cell 1;simp only[Yw.cells,gE0,gE1]at c1;have hbk:=vy2 X3.d hs.man;have hd3:=h3.acc.e;have hcw:=HB.out.trans hc3 (fun g hg=>.inl hg);have hfw:∀g∈XY X3 { Y with P:=P3 },g∈XY X Y∨w.heap.size≤g:=fun g hg=>(hf3 g hg).imp id (fun q=>h_ HB.out.size q);have hPw:P3=Y.P∨∀a,P3.a=some a→w.heap.size≤a.block:=hP3.imp id (fun q a ha=>h_ HB.out.size (q a ha));have HPW:=H_ hPw
 cases hbr:M1.broken with
 |false=>
  rw[hbr]at hbk;have hfin:my3 X Y w w3 S1 { V with M:=M1,only:=V.only||M1.broken }:=⟨X3,P3,hd3,by rw[hbr,bV_];exact hs,hcw,hfw,hPw⟩;have HF:=H_ hfin;clear hbr;have HBK:=H_ hbk;clear hbk hs hc3 hf3 hP3 hSw HS0 HSV H1 hfin hcw hfw hPw h3;go_wp2_with fail;refine HBK.out.mono ?_;rintro e w4 ⟨rfl,rfl⟩;go_wp2;go_ret;exact⟨rfl,HF.out⟩
 |true=>
  rw[hbr]at hbk;have hcl:=jq2 hs er;have HBK:=H_ hbk;have HCL:=H_ hcl;have HC3:=H_ hcw;have HF3:=H_ hfw;clear hbk hs hc3 hf3 hP3 hSw HS0 HSV H1 hcl hcw hfw hPw h3;go_wp2_with fail;refine HBK.out.mono ?_;rintro e w4 ⟨rfl,rfl⟩;go_wp2_with fail;refine HCL.out.mono ?_;rintro e w5 ⟨rfl,h5,hc5⟩;have hfin:my3 X Y w w5 S1 { V with M:=M1,only:=V.only||M1.broken }:=⟨X3,P3,hd3,by rw[hbr,Bool.or_true];exact h5,HC3.out.trans hc5 HF3.out,HF3.out,HPW.out⟩;have HF:=H_ hfin;clear hfin h5 hc5 HCL hbr;go_wp2;go_ret;exact⟨rfl,HF.out⟩
def ow1 (B:Nat) (X:Dw) (Y:Yw) (w w1:World) (S1:Sd) (V1:Sv):Prop:=∃X1 Y1,X1.d=X.d∧Y1.s=Y.s∧SvAt w1 X1 S1 Y1 V1∧Chg (XY X Y) w w1∧∀g∈XY X1 Y1,g∈XY X Y∨B≤g
theorem rq1.toB {B:Nat} (h:rq1 X Y w w1 S V) (hB:B≤w.heap.size):ow1 B X Y w w1 S V:=let ⟨X1,Y1,a,b,c,d,e⟩:=h;⟨X1,Y1,a,b,c,d,fun g hg=>(e g hg).imp id (h_ hB)⟩
theorem ow1.trans {B:Nat} (e1:X1.d=X.d) (e2:Y1.s=Y.s) (c:Chg (XY X Y) w w1) (hf:∀g∈XY X1 Y1,g∈XY X Y∨w.heap.size≤g) (hB:B≤w.heap.size) (k:ow1 B X1 Y1 w1 w2 S2 V2):ow1 B X Y w w2 S2 V2:=by
 obtain⟨X2,Y2,e3,e4,h,c2,hf2⟩:=k;refine⟨X2,Y2,e3.trans e1,e4.trans e2,h,c.trans c2 hf,fun g hg=>?_⟩
 rcases hf2 g hg with h1|h1
 ·exact(hf g h1).imp id (h_ hB)
 ·exact .inr h1
def fy5 (B:Nat) (w:World) (X:Dw) (Y:Yw) (V:Sv) (K:Nat) (capt:Array Value) (F:Sv→Sv):Prop:=∀w1 X1 P1 S1 M1 b,X1.d=X.d→Chg (XY X Y) w w1→(∀g∈XY X1 Y,g∈XY X Y∨w.heap.size≤g)→(P1=Y.P∨∀a,P1.a=some a→w.heap.size≤a.block)→SvAt w1 X1 S1 { Y with P:=P1 } { V with M:=M1,only:=b }→
 Calls Tryz.prog K capt w1 fun e w'=>e=.returned (.tuple #[])∧ow1 B X1 { Y with P:=P1 } w1 w' S1 (F { V with M:=M1,only:=b })
def uv4 (w:World) (X:Dw) (Y:Yw) (V:Sv) (K:Nat) (capt:Array Value) (R:World→Dw→Sl→Sd→Gs→Bool→World→Prop):Prop:=∀w1 X1 P1 S1 M1 b,X1.d=X.d→Chg (XY X Y) w w1→(∀g∈XY X1 Y,g∈XY X Y∨w.heap.size≤g)→(P1=Y.P∨∀a,P1.a=some a→w.heap.size≤a.block)→SvAt w1 X1 S1 { Y with P:=P1 } { V with M:=M1,only:=b }→
 Calls Tryz.prog K capt w1 fun e w'=>e=.returned (.tuple #[])∧R w1 X1 P1 S1 M1 b w'
def wq1 (w:World) (X:Dw) (Y:Yw) (V:Sv) (F:Sv→Sv) (R:World→Dw→Sl→Sd→Gs→Bool→World→Prop) (T:Sd×Sv×Nat) (e:Ending) (w':World):Prop:=
 e=.returned (.int .i64 (T.2.2:Int))∧∃w1 X1 P1 S1 M1 b,X1.d=X.d∧Chg (XY X Y) w w1∧(∀g∈XY X1 Y,g∈XY X Y∨w.heap.size≤g)∧(P1=Y.P∨∀a,P1.a=some a→w.heap.size≤a.block)∧SvAt w1 X1 S1 { Y with P:=P1 } { V with M:=M1,only:=b }∧
  ((w'=w1∧T.1=S1∧T.2.1={ V with M:=M1,only:=b })∨(R w1 X1 P1 S1 M1 b w'∧T.1=S1∧T.2.1=F { V with M:=M1,only:=b }))
theorem sx2 (h:SvAt w X S Y V) (x:Ed) (D:Option Addr) (dm dd:Nat) (A2:Option Addr) (n2 c2:Nat) (hdm:dm≤1000000) (hn2:n2≤1000000) (hrd:Row w.heap.size w D dm 1 (vk x.drop)) (hra:Row w.heap.size w A2 n2 2 (ax x.add)) (hD:∀a,D=some a→a.block∉XY X Y) (hA:∀a,A2=some a→a.block∉XY X Y) (hvf:V.M.v.files.length≤40)
  (hc0:V.M.count≤1000000000) (hnl:V.M.name.length≤1000) (K:Nat) (capt:Array Value) (F:Sv→Sv) (hF:∀args w,(callFunc K args).run Tryz.prog w=.ok (.enter K args) w) {R:World→Dw→Sl→Sd→Gs→Bool→World→Prop} (hK:uv4 w X Y V K capt R):
  Calls Tryz.prog 135 #[.pointer (some ⟨Y.s,0,none⟩),x.val D dm dd A2 n2 c2,.func (.func K) #[] capt] w (wq1 w X Y V F R (St.turn S V x F)):=by
 have hbA:=b_ w (.cells #[.slice D dm dd,.slice A2 n2 c2,.int .i64 x.log,.int .u64 (x.floor:Int),.int .u64 (x.cert:Int),.int .u64 (x.at_:Int),.int .u64 (x.lease:Int)] 194);have hbx:=BoxO.new w #[.slice D dm dd,.slice A2 n2 c2,.int .i64 x.log,.int .u64 (x.floor:Int),.int .u64 (x.cert:Int),.int .u64 (x.at_:Int),.int .u64 (x.lease:Int)] 194;have h1:=h.below hbA;have hrd1:=(hrd.below hbA).up hbA.size;have hra1:=(hra.below hbA).up hbA.size;have hsz:∀g∈XY X Y,g < w.heap.size:=h.lt;obtain⟨ge,hge⟩:=n_ w.heap.size;rw[←hge]at hbx;generalize hW:w.alloc (.cells #[.slice D dm dd,.slice A2 n2 c2,.int .i64 x.log,.int .u64 (x.floor:Int),.int .u64 (x.cert:Int),.int .u64 (x.at_:Int),.int .u64 (x.lease:Int)] 194)=W at *;have hgo:ge∉XY X Y:=fun hm=>by have:=hsz _ hm;omega
 have hsd:=(Acc.start (F:=[]) h1.dm).ay;have c0:=h1.box.cell 0;simp only[Yw.cells,gE0,gE1]at c0;obtain⟨Tr,hR⟩:=n_ (St.turn S V x F);unfold St.turn at hR;rw[←show Tr=St.turn S V x F from hR];obtain⟨a,ha⟩:=n_ S.ay;rw[←ha]at hsd hR;obtain⟨S1,er⟩:=a;simp only at hsd hR;have HG:=H_ hge;have HSD:=H_ hsd;have HR:=H_ hR;have H1:=H_ h1;have HB:=H_ hbA;have HBX:=H_ hbx;have HROW:=H_ (d_ hrd1 hra1);have HK:=H_ hK;have HF:=H_ hF;have HALEN:=H_ (show Y.P.n=V.M.v.files.length from h.plen);clear hsd hge h h1 hrd hra hrd1 hra1 hbA hbx hsz hR ha hK hF;unfold Ed.val at *;go_enter Tryz.func135,Tryz.ntmps135;go_wp2_with fail;rw[←HG.out];clear hW;refine HSD.out.mono ?_;rintro e w1 ⟨rfl,X2,h2⟩;obtain⟨X1,e1,hs1,hc1,hf1⟩:=H1.out.disk h2.updM;have hc1x:Chg X.foot W w1:=by simpa using h2.c
 have hc1w:=(Chg.of_below HB.out (XY X Y)).trans hc1 (fun g hg=>.inl hg);have hf1w:∀g∈XY X1 Y,g∈XY X Y∨w.heap.size≤g:=fun g hg=>(hf1 g hg).imp id (fun q=>h_ HB.out.size q);have HS1:=H_ hs1;have HC1:=H_ hc1w;have HF1:=H_ hf1w;have hgx:∀g,g∉XY X Y→g∉X.foot:=fun g hg hm=>hg (s_ _ hm)
 by_cases he:er=0
 ·subst he
  have hbx1:=HBX.out.chg hc1 hgo;have y0:=hbx1.c0;have y1:=hbx1.c1;have y2:=hbx1.c2;have y3:=hbx1.c3;have y4:=hbx1.c4;have y5:=hbx1.c5;have y6:=hbx1.c6;have hrd2:=(oq hc1 HROW.out.1 l_ (fun j _ a ha=>hD a ha)).up hc1.size;have hra2:=(oq hc1 HROW.out.2 l_ (fun j _ a ha=>hA a ha)).up hc1.size;have hsv:=pv2 hs1 x D dm dd A2 n2 c2 hdm hn2 hrd2 hra2 hvf hc0 hnl;obtain⟨r,hr⟩:=n_ (St.saved S1 V x);have hR2:=HR.out;rw[if_neg (by simp)]at hR2;rw[←hr]at hsv hR2;have hr1:∃S3 M3 b3 er3,r=(S3,{ V with M:=M3,only:=b3 },er3):=⟨_,_,_,_,hr⟩;obtain⟨S3,M3,b3,er3,rfl⟩:=hr1;obtain⟨V3,hV3⟩:∃V3:Sv,V3={ V with M:=M3,only:=b3 }:=⟨_,rfl⟩;simp only at hsv hR2;rw[←hV3]at hsv hR2;have HV3:=H_ hV3;unfold Ed.val at hsv;have HSV:=H_ hsv;have HR2:=H_ hR2;clear hsv hr hV3 hR2 hrd2 hra2 hbx1 HROW HBX HR HSD hs1 hc1 hf1 hc1w hf1w hc1x h2;go_wp2_with fail;refine HSV.out.mono ?_;rintro e w3 ⟨rfl,X3,P3,e3,hs3,hc3,hf3,hP3⟩;have hcw:=HC1.out.trans hc3 HF1.out;have hfw:∀g∈XY X3 Y,g∈XY X Y∨w.heap.size≤g:=fun g hg=>by
   rcases hf3 g hg with q|q
   ·exact HF1.out g q
   ·exact .inr (h_ HC1.out.size q)
  have hPw:P3=Y.P∨∀a,P3.a=some a→w.heap.size≤a.block:=hP3.imp id (fun q a ha=>h_ HC1.out.size (q a ha));have hs3b:=hs3;rw[HV3.out]at hs3b;have hcl:=HK.out w3 X3 P3 S3 M3 b3 (e3.trans e1) hcw hfw hPw hs3b;have hup:∀er:Nat,wq1 w X Y V F R (S3,V3,er) (.returned (.int .i64 (er:Int))) w3:=fun er=>⟨rfl,w3,X3,P3,S3,M3,b3,e3.trans e1,hcw,hfw,hPw,hs3b,.inl ⟨rfl,rfl,HV3.out⟩⟩;have hend:∀(er:Nat) w5,R w3 X3 P3 S3 M3 b3 w5→wq1 w X Y V F R (S3,F V3,er) (.returned (.int .i64 (er:Int))) w5:=fun er w5 k=>⟨rfl,w3,X3,P3,S3,M3,b3,e3.trans e1,hcw,hfw,hPw,hs3b,.inr ⟨k,rfl,by rw[HV3.out]⟩⟩;have c10:=hs3.box.cell 10;simp only[Yw.cells,gE0,gE1]at c10;have HCL:=H_ hcl;have HUP:=H_ hup;have HEND:=H_ hend;clear hcl hup hend hcw hfw hs3 hs3b hPw hP3 hc3 hf3 HSV HC1 HF1 HS1 y0 y1 y2 y3 y4 y5 y6
  by_cases he3:er3=0
  ·subst he3
   have HR3:=H_ (HR2.out.trans (if_pos (.inl rfl)));go_wp2_with fail;rw[HF.out,Oper.upon_enter];refine HCL.out.mono ?_;rintro e w5 ⟨rfl,h5⟩;have H5:=H_ (HEND.out 0 _ h5);clear h5;go_wp2;go_ret;rw[HR3.out];exact H5.out
  ·have e3i:((er3:Int)==0)=false:=by simp;omega
   have hb3:b3=V3.only:=by rw[HV3.out]
   cases ho:V3.only with
   |true=>
    rw[ho]at c10;have HR3:=H_ (HR2.out.trans (if_pos (.inr (hb3.trans ho))));clear ho he3 hb3;go_wp2_with fail;rw[HF.out,Oper.upon_enter];refine HCL.out.mono ?_;rintro e w5 ⟨rfl,h5⟩;have H5:=H_ (HEND.out er3 _ h5);clear h5;go_wp2;go_ret;rw[HR3.out];exact H5.out
   |false=>
    rw[ho]at c10;have HR3:=H_ (HR2.out.trans (if_neg (by simp[he3,hb3.trans ho])));clear ho he3 hb3;go_wp2;go_ret;rw[HR3.out];exact HUP.out _
 ·have e1i:((er:Int)==0)=false:=by simp;omega
  have hR2:=HR.out;rw[if_pos he]at hR2;have HR2:=H_ hR2;clear hR2 he;have HU:Hid (wq1 w X Y V F R (S1,V,er) (.returned (.int .i64 (er:Int))) w1):=H_ ⟨rfl,w1,X1,Y.P,S1,V.M,V.only,e1,hc1w,hf1w,.inl rfl,hs1,.inl ⟨rfl,rfl,rfl⟩⟩;clear hs1 hc1 hf1 hc1w hf1w hc1x h2;go_wp2;go_ret;rw[HR2.out];exact HU.out
theorem ix4 (h:SvAt w X S Y V) (x:Ed) (D:Option Addr) (dm dd:Nat) (A2:Option Addr) (n2 c2:Nat) (hdm:dm≤1000000) (hn2:n2≤1000000) (hrd:Row w.heap.size w D dm 1 (vk x.drop)) (hra:Row w.heap.size w A2 n2 2 (ax x.add)) (hD:∀a,D=some a→a.block∉XY X Y) (hA:∀a,A2=some a→a.block∉XY X Y) (hvf:V.M.v.files.length≤40)
  (hc0:V.M.count≤1000000000) (hnl:V.M.name.length≤1000) (K:Nat) (capt:Array Value) (F:Sv→Sv) (hF:∀args w,(callFunc K args).run Tryz.prog w=.ok (.enter K args) w) {B:Nat} (hB:B≤w.heap.size) (hK:fy5 B w X Y V K capt F):
  Calls Tryz.prog 135 #[.pointer (some ⟨Y.s,0,none⟩),x.val D dm dd A2 n2 c2,.func (.func K) #[] capt] w fun e w'=>e=.returned (.int .i64 ((St.turn S V x F).2.2:Int))∧ow1 B X Y w w' (St.turn S V x F).1 (St.turn S V x F).2.1:=by
 refine(sx2 h x D dm dd A2 n2 c2 hdm hn2 hrd hra hD hA hvf hc0 hnl K capt F hF hK).mono ?_;rintro e w' ⟨he,w1,X1,P1,S1,M1,b,e1,c1,f1,p1,h1,⟨rfl,q1,q2⟩|⟨k,q1,q2⟩⟩
 ·rw[q1,q2]
  exact⟨he,rq1.toB ⟨X1,{ Y with P:=P1 },e1,rfl,h1,c1,f1⟩ hB⟩
 ·rw[q1,q2]
  exact⟨he,ow1.trans (Y1:={ Y with P:=P1 }) e1 rfl c1 f1 hB k⟩
end
end Go.Proofs.YthjdpplgfdihoaaGreatDoor
