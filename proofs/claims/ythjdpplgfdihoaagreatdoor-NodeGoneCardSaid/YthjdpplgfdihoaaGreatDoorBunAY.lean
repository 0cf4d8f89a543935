/- Texts StoB, StoH, NodA, NodB, NodC, MsgA, MsgC in one. No conditions. -/
import Derived.Test.YthjdpplgfdihoaaGreatDoorBunAU

set_option linter.unusedSimpArgs false
set_option linter.unusedVariables false
set_option maxRecDepth 100000
set_option maxHeartbeats 16000000
namespace Go.Proofs.YthjdpplgfdihoaaGreatDoor
section
open Go Go.RowKit Go.Lib Go.Shelf
variable {w w1 w2:World} {X X1 X2:Dw} {S S1 S2:Sd} {Y Y1 Y2:Yw} {V V1 V2:Sv}
theorem kk3 (h:SvAt w X S Y V) (A:Option Addr) (n c:Nat) (l:List It) (hA:qx (XY X Y) w fun w=>Its 0 w A n c l):
  Calls Tryz.prog 88 #[.pointer (some ⟨Y.s,0,none⟩),.slice A n c] w fun e w'=>e=.returned (.tuple #[])∧SvAt w' X S { Y with A:=⟨A,n,c⟩ } { V with st:=l }∧Chg (XY X Y) w w':=by
 have c5:=h.box.cell 5;have f5:=h.box.free 5;have hb1:=h.box.store 5 (.slice A n c);have c6:=hb1.cell 6;have f6:=hb1.free 6;have hb2:=hb1.store 6 (.int .i64 (n:Int));simp only[Yw.cells,gE0,gE1,List.set]at c5 c6;have HST:=H_ (zy1 Y.s 6 _ (n:Int) _ c6 f6);have hcc:Chg [Y.s] w ((w.setCell ⟨Y.s,5,none⟩ (.slice A n c)).setCell ⟨Y.s,6,none⟩ (.int .i64 (n:Int))):=((Chg.refl _ _).setCell _ (.inl (by simp))).setCell _ (.inl (by simp));have hcc2:Chg (XY X Y) w ((w.setCell ⟨Y.s,5,none⟩ (.slice A n c)).setCell ⟨Y.s,6,none⟩ (.int .i64 (n:Int))):=hcc.mono fun g hg=>.inl (by
  rw[c_.1 hg];exact k_ _ (Yw.aj.2 (.inl rfl)))
 have hfin:=h.sbox (Y1:={ Y with A:=⟨A,n,c⟩ }) (V1:={ V with st:=l }) hcc hb2 rfl rfl (hA.step hcc2 (fun g hg=>.inl hg));have HF:=H_ hfin;clear hfin hcc hcc2 hb2 hb1 c6 f6 hA h;go_enter Tryz.func88,Tryz.ntmps88;go_wp2_with fail;refine HST.out.mono ?_;rintro e w1 ⟨rfl,rfl⟩;go_wp2;exact bodyPost_end (v:=.tuple #[]) (by simp[results,go_sem]) rfl ⟨rfl,HF.out.1,HF.out.2⟩
theorem ky4 (A:Option Addr) (n c:Nat) (l:List It) (w:World) (hn:n≤1000000) (hr:Row w.heap.size w A n 5 (itc l)):
  Calls Tryz.prog 95 #[.slice A n c] w fun e w'=>∃A' c',e=.returned (.slice A' n c')∧w'.ownsRow w.heap.size 36 5 (.slice A' n c') n (itc l)∧Below w.heap.size w w':=by
 obtain⟨i0,hi0,hz0,hz1,hz2⟩:=info_parts rq;have HR:=H_ hr;clear hr;go_enter Tryz.func95,Tryz.ntmps95;go_wp2_with (at_builtin;refine iy ?_);refine gz (ry rfl _ (.tmp 3) _ rfl w.heap.size 36 i0 _ 5 40 Tryz.underlying31 hi0 hz0 hz1 hz2 rfl (by omega) w b0_ l_ rfl w.heap.size A n c (itc l) rfl HR.out (xq l) (by unfold maxLen;omega) (by omega) ?_);intro A' c' w' h1 h2 h3 h4 h5;go_wp2;go_ret;exact⟨_,_,rfl,h1,h2⟩
theorem dz1 (h:SvAt w X S Y V) (hn:V.st.length≤1000000):
  Calls Tryz.prog 32 #[.pointer (some ⟨Y.s,0,none⟩)] w fun e w'=>∃A' c',e=.returned (.slice A' Y.A.n c')∧w'.ownsRow w.heap.size 36 5 (.slice A' Y.A.n c') Y.A.n (itc V.st)∧Below w.heap.size w w':=by
 have c5:=h.box.cell 5;simp only[Yw.cells,gE0,gE1]at c5;have HS:=H_ (ky4 Y.A.a Y.A.n Y.A.c V.st w (by rw[h.alen];omega) h.st.now.row);clear h;go_enter Tryz.func32,Tryz.ntmps32;go_wp2_with fail;refine HS.out.mono ?_;rintro e w1 ⟨A',c',rfl,h1,h2⟩;go_wp2;go_ret;exact⟨_,_,rfl,h1,h2⟩
end
section
open Go Go.RowKit Go.Lib Go.Shelf
variable {w w1 w2:World} {X X1 X2:Dw} {S S1 S2:Sd} {Y Y1 Y2:Yw} {V V1 V2:Sv}
theorem SvAt.put (h:SvAt w X S Y V) (e:X1.d=X.d) (hd:Dm w1 X1 S1) (c:Chg (Y.g::X.foot) w w1) (hf:∀g∈X1.foot,g∈X.foot∨w.heap.size≤g) {sz ct:Nat} (hl:LgAt w1 Y.g X.d V.nm sz ct):SvAt w1 X1 S1 Y { V with sz:=sz,ct:=ct }∧Chg (XY X Y) w w1∧∀g∈XY X1 Y,g∈XY X Y∨w.heap.size≤g:=by
 have hn:∀g∈Y.foot,g∉X.foot:=h.apart.x;have hgf:Y.g∈Y.foot:=Yw.aj.2 (.inr (.inr (.inl rfl)));have hc2:Chg (XY X Y) w w1:=c.mono fun g hg=>.inl (by
  rcases g_.1 hg with rfl|hg
  ·exact k_ _ hgf
  ·exact s_ _ hg)
 have hf2:∀g∈XY X1 Y,g∈XY X Y∨w.heap.size≤g:=fun g hg=>by
  rcases q_.1 hg with h1|h1
  ·rcases hf g h1 with h2|h2
   ·exact .inl (s_ _ h2)
   ·exact .inr h2
  ·exact .inl (k_ _ h1)
 have hm:∀g∈Y.foot,g≠Y.g→g∉Y.g::X.foot:=fun g hg hne hmm=>by
  rcases g_.1 hmm with q|q
  ·exact hne q
  ·exact hn g hg q
 have aps:=h.apart.s;have apm:=h.apart.m;have apg:=h.apart.g;refine⟨⟨hd,by rw[e];exact h.box.chg c (hm _ (Yw.aj.2 (.inl rfl)) (fun e=>aps (by rw[e];exact f_ _ m_))),by rw[e];exact h.man.chg c (hm _ (Yw.aj.2 (.inr (.inl rfl))) (fun e=>apm (by rw[e];exact m_))),?_,h.pout,by rw[e];exact hl,h.mem.chg c (fun g hg=>hm g (Yw.aj.2 ?_) (fun e=>apg (by rw[←e];exact hg))),h.its,h.tabs.step hc2 hf2,h.st.step hc2 hf2,⟨fun g hg hmm=>?_,aps,apm,apg⟩,h.ng⟩,hc2,hf2⟩
 ·refine⟨(oq c h.row.row l_ (fun j hj a ha hmm=>?_)).up c.size,h.row.nc,h.row.cm,h.row.nb,fun j hj a ha=>⟨(h.row.away j hj a ha).1,fun hmm=>?_⟩⟩
  ·rcases g_.1 hmm with q|q
   ·exact h.pout j hj a ha (by rw[q];exact hgf)
   ·exact(h.row.away j hj a ha).2 q
  ·rcases hf _ hmm with h1|h1
   ·exact(h.row.away j hj a ha).2 h1
   ·obtain⟨b,e,q1,_⟩:=h.row.row.cell j hj
    rw[ha]at e;injection e with e;subst e;omega
 ·rcases g_.1 hg with rfl|hg
  ·exact .inr (.inr (.inr (.inl rfl)))
  ·exact .inr (.inr (.inr (.inr hg)))
 ·rcases hf g hmm with h1|h1
  ·exact hn g hg h1
  ·have:=h.ylt g hg
   omega
theorem SvAt.mput (h:SvAt w X S Y V) {ns':List Nd} (hm:MmAt w1 Y.mm Y.L ns') (c:Chg (Y.mm::skF Y.L Y.ns) w w1) (hf:∀g∈skF Y.L ns',g∈skF Y.L Y.ns∨w.heap.size≤g):SvAt w1 X S { Y with ns:=ns' } { V with mem:=Go.Proofs.YthjdpplgfdihoaaGreatDoor.its ns' }∧Chg (XY X Y) w w1∧∀g∈XY X { Y with ns:=ns' },g∈XY X Y∨w.heap.size≤g:=by
 have hin:∀g∈Y.mm::skF Y.L Y.ns,g∈Y.foot:=fun g hg=>Yw.aj.2 (by
  rcases g_.1 hg with rfl|hg
  ·exact .inr (.inr (.inr (.inl rfl)))
  ·exact .inr (.inr (.inr (.inr hg))))
 have hc2:Chg (XY X Y) w w1:=c.mono fun g hg=>.inl (k_ _ (hin g hg));have hmf:∀g∈Y.mm::skF Y.L ns',g∈Y.mm::skF Y.L Y.ns∨w.heap.size≤g:=fun g hg=>by
  rcases g_.1 hg with rfl|hg
  ·exact .inl m_
  ·exact(hf g hg).imp (f_ _) id
 have hf1:∀g∈({ Y with ns:=ns' }:Yw).foot,g∈Y.foot∨w.heap.size≤g:=fun g hg=>by
  rcases Yw.aj.1 hg with q|q|q|q|q
  ·exact .inl (Yw.aj.2 (.inl q))
  ·exact .inl (Yw.aj.2 (.inr (.inl q)))
  ·exact .inl (Yw.aj.2 (.inr (.inr (.inl q))))
  ·exact .inl (Yw.aj.2 (.inr (.inr (.inr (.inl q)))))
  ·rcases hf g q with q|q
   ·exact .inl (Yw.aj.2 (.inr (.inr (.inr (.inr q)))))
   ·exact .inr q
 have hf2:∀g∈XY X { Y with ns:=ns' },g∈XY X Y∨w.heap.size≤g:=fun g hg=>by
  rcases q_.1 hg with q|q
  ·exact .inl (s_ _ q)
  ·exact(hf1 g q).imp (k_ _) id
 have aps:=h.apart.s;have apm:=h.apart.m;have apg:=h.apart.g;have hs:Y.s∉Y.mm::skF Y.L Y.ns:=fun hm=>aps (f_ _ (f_ _ hm));have hmm:Y.m∉Y.mm::skF Y.L Y.ns:=fun hm=>apm (f_ _ hm);have old:∀x,x∉Y.mm::skF Y.L Y.ns→x < w.heap.size→x∉Y.mm::skF Y.L ns':=fun x h1 h2 h3=>by
  rcases hmf x h3 with q|q
  ·exact h1 q
  ·omega
 have l1:=h.box.lt;have l2:=h.man.lt;have l3:=h.log.lt;refine⟨⟨h.dm.chg c (fun g hg=>⟨h.apart.x g (hin g hg),h.ng g (hin g hg)⟩),h.box.chg c hs,h.man.chg c hmm,?_,?_,h.log.chg c apg,hm,rfl,h.tabs.step hc2 hf2,h.st.step hc2 hf2,⟨fun g hg hx=>?_,?_,?_,old _ apg l3⟩,fun g hg=>?_⟩,hc2,hf2⟩
 ·exact⟨(oq c h.row.row l_ (fun j hj a ha hx=>h.pout j hj a ha (hin _ hx))).up c.size,h.row.nc,h.row.cm,h.row.nb,h.row.away⟩
 ·intro j hj a ha hx
  rcases hf1 _ hx with q|q
  ·exact h.pout j hj a ha q
  ·obtain⟨b,e,q1,_⟩:=h.row.row.cell j hj
   rw[ha]at e;injection e with e;subst e;omega
 ·rcases hf1 g hg with q|q
  ·exact h.apart.x g q hx
  ·have:=h.dm.dk.lt g hx
   omega
 ·intro hx
  rcases g_.1 hx with q|q
  ·exact aps (by rw[q];exact m_)
  ·rcases g_.1 q with q|q
   ·exact aps (by rw[q];exact f_ _ m_)
   ·exact old _ hs l1 q
 ·intro hx
  rcases g_.1 hx with q|q
  ·exact apm (by rw[q];exact m_)
  ·exact old _ hmm l2 q
 ·rcases hf1 g hg with q|q
  ·exact h.ng g q
  ·have:=h.dm.env.base
   omega
def NewA (w:World) (Y Y1:Yw):Prop:=Y1.A=Y.A∨∀a,Y1.A.a=some a→w.heap.size≤a.block
theorem NewA.trans (h:NewA w Y Y1) (k:NewA w1 Y1 Y2) (hs:w.heap.size≤w1.heap.size):NewA w Y Y2:=by
 rcases k with k|k
 ·rcases h with h|h
  ·exact .inl (k.trans h)
  ·exact .inr (by rw[k];exact h)
 ·exact .inr fun a ha=>h_ hs (k a ha)
def cj1 (X:Dw) (Y:Yw) (w w1:World) (S1:Sd) (V1:Sv):Prop:=∃X1 Y1,X1.d=X.d∧Y1.s=Y.s∧SvAt w1 X1 S1 Y1 V1∧Chg (XY X Y) w w1∧(∀g∈XY X1 Y1,g∈XY X Y∨w.heap.size≤g)∧NewA w Y Y1
def uy (X:Dw) (Y:Yw) (w:World) (R:Sd×Sv×Nat) (e:Ending) (w1:World):Prop:=e=.returned (.int .i64 (R.2.2:Int))∧cj1 X Y w w1 R.1 R.2.1
theorem cj1.refl (h:SvAt w X S Y V):cj1 X Y w w S V:=⟨X,Y,rfl,rfl,h,Chg.refl _ _,fun _ hg=>.inl hg,.inl rfl⟩
theorem cj1.same (h:SvAt w X S Y V) (hb:Below w.heap.size w w1):cj1 X Y w w1 S V:=⟨X,Y,rfl,rfl,h.below hb,Chg.of_below hb _,fun _ hg=>.inl hg,.inl rfl⟩
theorem cj1.c (h:cj1 X Y w w1 S V):Chg (XY X Y) w w1:=let ⟨_,_,_,_,_,c,_⟩:=h;c
theorem aq3 (h:SvAt w X S Y V) (A:Option Addr) (n c:Nat) (l:List It) (hn:n≤100000) (hr:Row w.heap.size w A n 5 (itc l)) (hA:∀a,A=some a→a.block∉XY X Y) (hfit:∀x∈l,x.fit) (hst:Stt V.st) (hsl:V.st.length≤2000) (hsz:V.sz≤1000000000000) (hct:V.ct≤1000000000) (hml:V.mem.length≤400000) (hnm:V.nm.length≤1000):
  Calls Tryz.prog 65 #[.pointer (some ⟨Y.s,0,none⟩),.slice A n c] w (uy X Y w (St.apply S V l)):=by
 have hll:=hr.uz;obtain⟨R,hR⟩:=n_ (St.apply S V l);have hR0:=hR;unfold St.apply at hR;rw[←hR0];clear hR0;have hxlt:=h.lt;have c10:=h.box.cell 10;have c5:=h.box.cell 5;simp only[Yw.cells,gE0,gE1]at c10 c5;have hal:=px1 A n c l w (by omega) hr;obtain⟨ab,hab⟩:=n_ (l.all It.ok);have HH:=H_ h;have HLL:=H_ hll;have HX:=H_ hxlt;have HROW:=H_ hr
 cases ho:V.only with
 |true=>
  rw[if_pos ho]at hR;rw[ho]at c10;have HZ:Hid (uy X Y w R (.returned (.int .i64 14)) w):=H_ (by rw[hR];exact⟨rfl,cj1.refl h⟩);clear hR ho h hr hxlt hal hab hll;go_enter Tryz.func65,Tryz.ntmps65;go_wp2;go_ret;exact HZ.out
 |false=>
 rw[if_neg (by simp[ho])]at hR;rw[ho]at c10
 by_cases h0:n=0
 ·have hl0:l=[]:=U_.1 (by omega)
  rw[if_pos (.inl hl0)]at hR;have HZ:Hid (uy X Y w R (.returned (.int .i64 1)) w):=H_ (by rw[hR];exact⟨rfl,cj1.refl h⟩);subst h0;clear hR ho h hr hxlt hal hab hll hl0;go_enter Tryz.func65,Tryz.ntmps65;go_wp2;go_ret;exact HZ.out
 have e0:((n:Int)==0)=false:=by simp;omega
 have hl0:l≠[]:=fun e=>by rw[e]at hll;simp at hll;omega
 rw[←hab]at hal;have HAL:=H_ hal
 cases ab with
 |false=>
  rw[if_pos (.inr hab.symm)]at hR;have HZ:Hid (∀w',Below w.heap.size w w'→uy X Y w R (.returned (.int .i64 1)) w'):=H_ (fun w' hb=>by rw[hR];exact⟨rfl,cj1.same h hb⟩);clear hR ho h hr hxlt hal hab hll hl0;go_enter Tryz.func65,Tryz.ntmps65;go_wp2_with fail
  with_reducible refine HAL.out.mono ?_
  rintro e w2 ⟨rfl,hb2⟩;have HY:=H_ (HZ.out _ hb2);clear hb2 HZ;go_wp2;go_ret;exact HY.out
 |true=>
 rw[if_neg (by intro q;rcases q with q|q;exact hl0 q;rw[←hab]at q;cases q)]at hR
 by_cases h1:1000 < n
 ·rw[if_pos (by omega)]at hR
  have HZ:Hid (∀w',Below w.heap.size w w'→uy X Y w R (.returned (.int .i64 2)) w'):=H_ (fun w' hb=>by rw[hR];exact⟨rfl,cj1.same h hb⟩);have e1:((1000:Int) < (n:Int))=True:=eq_true (by omega);clear hR ho h hr hxlt hal hab hll hl0;go_enter Tryz.func65,Tryz.ntmps65;go_wp2_with fail
  with_reducible refine HAL.out.mono ?_
  rintro e w2 ⟨rfl,hb2⟩;have HY:=H_ (HZ.out _ hb2);clear hb2 HZ;go_wp2;go_ret;exact HY.out
 rw[if_neg (by omega)]at hR;have e1:((1000:Int) < (n:Int))=False:=eq_false (by omega);have hit:=h.st.now;have hjn:=fun(W:World) (hb:Below w.heap.size w W)=>oy2 Y.A.a Y.A.n Y.A.c V.st A n c l W (by have:=h.alen;omega) hit.nc hit.cm hst ((hit.row.below hb).up hb.size) ((hr.below hb).up hb.size);have c5w:∀W,Below w.heap.size w W→W.cell? ⟨Y.s,5,none⟩=some (.slice Y.A.a Y.A.n Y.A.c):=fun W hb=>(hb.cell (p:=⟨Y.s,5,none⟩) h.box.lt).trans c5;obtain⟨J,hJ⟩:=n_ (joins V.st l);rw[←hJ]at hR hjn;have HJN:=H_ hjn;have HC5:=H_ c5w;have HR:=H_ hR;have HJ:=H_ hJ;have HAB:=H_ hab;have HFS:=H_ h.ylt;clear hR ho h hr hxlt hal hab hll hl0 hit hjn c5w hJ c5;go_enter Tryz.func65,Tryz.ntmps65;go_wp2_with fail
 with_reducible refine HAL.out.mono ?_
 rintro e w2 ⟨rfl,hb2⟩;have c5:=HC5.out w2 hb2;go_wp2_with fail
 with_reducible refine(HJN.out w2 hb2).mono ?_
 rintro e w3 ⟨A3,k3,rfl,hk3,hi3,hb3⟩;have hs3:=(HH.out.below hb2).below hb3;have hb23:=az hb2 hb3;have hfx3:qx (XY X Y) w3 fun W=>Its 0 W A3 k3 k3 J:=fun W cW=>⟨(oq cW hi3.row l_ (fun j _ a ha hm=>by
  have:=hi3.low a ha;have:=HX.out _ hm;have:=hb2.size;omega)).up cW.size,hi3.nc,hi3.cm,fun _ _=>t_ _⟩
 have HLA:Hid (∀a,A3=some a→w.heap.size≤a.block):=H_ fun a ha=>h_ hb2.size (hi3.low a ha);have HK3:=H_ hk3;have HS3:=H_ hs3;have HF3:=H_ hfx3;have HB:=H_ hb23;clear hk3 hs3 hfx3 hi3 hb3 hb2 hb23 c5 HJN HAL HC5;have hR:=HR.out
 by_cases h2:1500 < k3
 ·rw[if_pos (by rw[←HK3.out];exact h2)]at hR
  have e2:((1500:Int) < (k3:Int))=True:=eq_true (by omega);have HZ:Hid (uy X Y w R (.returned (.int .i64 2)) w3):=H_ (by rw[hR];exact⟨rfl,cj1.same HH.out HB.out⟩);clear hR h2;go_wp2;go_ret;exact HZ.out
 rw[if_neg (by rw[←HK3.out];exact h2)]at hR;have e2:((1500:Int) < (k3:Int))=False:=eq_false (by omega);have c2:=HS3.out.box.cell 2;simp only[Yw.cells,gE0,gE1]at c2;have hlp:=jv4 X S Y.g V.nm V.sz V.ct A n c l w3 hnm HS3.out.dm HS3.out.log (HS3.out.apart.x _ (Yw.aj.2 (.inr (.inr (.inl rfl))))) (HS3.out.ng _ (Yw.aj.2 (.inr (.inr (.inl rfl))))) hsz hct (by omega) (by omega) ((HROW.out.below HB.out).up HB.out.size) (fun x hx=>⟨by have:=HAB.out;rw[eq_comm,al_]at this;exact this x hx,hfit x hx⟩);obtain⟨a,ha⟩:=n_ (S.append V.nm (Lg.batch l));rw[←ha]at hlp hR;obtain⟨S4,er4⟩:=a;unfold jw3 at hlp;simp only at hlp hR;have HLP:=H_ hlp;have HR2:=H_ hR;clear hlp hR ha h2 HR;go_wp2_with fail
 with_reducible refine HLP.out.mono ?_
 rintro e w4 ⟨rfl,X4,e4,hd4,hc4,hf4,hl4⟩
 by_cases h4:er4=0
 ·subst h4
  rw[if_pos rfl]at hl4;obtain⟨hs4,hc4x,hf4x⟩:=HS3.out.put e4 hd4 hc4 hf4 hl4;have c3:=hs4.box.cell 3;simp only[Yw.cells,gE0,gE1]at c3;have hr4:=(oq hc4x ((HROW.out.below HB.out).up HB.out.size) l_ (fun j _ a ha=>hA a ha)).up hc4x.size;have hin:∀g∈Y.mm::skF Y.L Y.ns,g∈Y.foot:=fun g hg=>Yw.aj.2 (by
   rcases g_.1 hg with rfl|hg
   ·exact .inr (.inr (.inr (.inl rfl)))
   ·exact .inr (.inr (.inr (.inr hg))))
  have hma:=zj2 hs4.mem A n c l (by omega) (by rw[hs4.its];exact hml) hr4 (fun a ha=>⟨fun hm=>hA a ha (k_ _ (hin _ (by rw[hm];exact m_))),fun hm=>hA a ha (k_ _ (hin _ (f_ _ hm)))⟩) HAB.out.symm;have HS4:=H_ hs4;have HMA:=H_ hma;have HC4:=H_ (d_ hc4x hf4x);have HE4:=H_ e4;clear hs4 hma hr4 hc4x hf4x hc4 hf4 hd4 hl4 e4 hin HLP;go_wp2_with fail
  with_reducible refine HMA.out.mono ?_
  rintro e w5 ⟨ns',rfl,hm5,hi5,hc5,hf5⟩;obtain⟨hs5,hc5x,hf5x⟩:=HS4.out.mput hm5 hc5 hf5;have hfx5:=(HF3.out.step HC4.out.1 HC4.out.2).step hc5x hf5x;have hset:=kk3 hs5 A3 k3 k3 J hfx5;have hc:=(((Chg.of_below HB.out (XY X Y)).trans HC4.out.1 (fun g hg=>.inl hg)).trans hc5x (fun g hg=>(HC4.out.2 g hg).imp id (h_ HB.out.size)));have hfz:∀g∈XY X4 { Y with ns:=ns' },g∈XY X Y∨w.heap.size≤g:=fun g hg=>by
   rcases hf5x g hg with q|q
   ·exact(HC4.out.2 g q).imp id (h_ HB.out.size)
   ·exact .inr (h_ (h_ HB.out.size HC4.out.1.size) q)
  have HSET:=H_ hset;have HC:=H_ hc;have HFZ:=H_ hfz;have HI5:=H_ (show its ns'=l.foldl wput V.mem by rw[hi5,HS4.out.its]);clear hs5 hfx5 hset hc hfz hm5 hi5 hc5 hf5 hc5x hf5x HMA c3 c2;go_wp2_with fail
  with_reducible refine HSET.out.mono ?_
  rintro e w6 ⟨rfl,hs6,hc6⟩;have hz:uy X Y w R (.returned (.int .i64 0)) w6:=by
   rw[HR2.out,if_neg (by simp)];refine⟨rfl,X4,{ Y with ns:=ns',A:=⟨A3,k3,k3⟩ },HE4.out,rfl,?_,HC.out.trans hc6 HFZ.out,HFZ.out,.inr HLA.out⟩;rw[←HI5.out];exact hs6
  have HZ:=H_ hz;clear hz hs6 hc6 HSET;go_wp2;go_ret;exact HZ.out
 ·have e3:((er4:Int)==0)=false:=by simp;omega
  rw[if_neg h4]at hl4;obtain⟨hs4,hc4x,hf4x⟩:=HS3.out.put e4 hd4 hc4 hf4 hl4;have hz:uy X Y w R (.returned (.int .i64 (er4:Int))) w4:=by
   rw[HR2.out,if_pos h4];exact⟨rfl,X4,Y,e4,rfl,hs4,(Chg.of_below HB.out (XY X Y)).trans hc4x (fun g hg=>.inl hg),fun g hg=>(hf4x g hg).imp id (h_ HB.out.size),.inl rfl⟩
  have HZ:=H_ hz;clear hz hs4 hc4x hf4x hc4 hf4 hd4 hl4 e4 HLP h4;go_wp2;go_ret;exact HZ.out
end
section
open Go Go.RowKit Go.Lib Go.Shelf
variable {w w1 w2:World} {X X1 X2:Dw} {S S1 S2:Sd} {Y Y1 Y2:Yw} {V V1 V2:Sv}
structure Mt where
 floor:Nat
 cert:Nat
 at_:Nat
 lease:Nat
def Mt.val (m:Mt):Value:=.agg #[.int .u64 (m.floor:Int),.int .u64 (m.cert:Int),.int .u64 (m.at_:Int),.int .u64 (m.lease:Int)]
namespace St
def oz (V:Sv):Mt:=⟨V.M.v.floor,V.M.v.cert,V.M.v.at_,V.M.v.lease⟩
def sync (S:Sd) (V:Sv):Sd×Sv×Nat:=
 if V.only=true then (S,V,14) else
 if (S.sync V.nm).2=0 then ((S.sync V.nm).1,V,0) else ((S.sync V.nm).1,{ V with only:=true },(S.sync V.nm).2)
end St
theorem xx (h:SvAt w X S Y V) (hn:V.M.v.files.length≤10000):
  Calls Tryz.prog 47 #[.pointer (some ⟨Y.s,0,none⟩)] w fun e w'=>e=.returned (St.oz V).val∧Below w.heap.size w w':=by
 have hb1:=b_ w (.cells #[.int .u64 0,.int .u64 0,.int .u64 0,.int .u64 0] 47);have hbx:=BoxO.new w #[.int .u64 0,.int .u64 0,.int .u64 0,.int .u64 0] 47;have h1:=h.below hb1;have k1:=h1.box.cell 1;simp only[Yw.cells,gE0,gE1]at k1;have hv:=ix2 X.d h1.man h1.row.row (by rw[h1.plen];exact hn);obtain⟨v,hv0⟩:=n_ V.M.v;unfold St.oz Mt.val;rw[←hv0]at hv ⊢;unfold Vw.val at hv;have HV:=H_ hv;have HB:=H_ (d_ hb1 hbx);clear hv hv0 h h1 hb1 hbx;go_enter Tryz.func47,Tryz.ntmps47;go_wp2_with fail;refine HV.out.mono ?_;rintro e w2 ⟨A,c,rfl,_,hb2⟩;have hbz:=az HB.out.1 hb2;have hx2:=HB.out.2.below hb2;have hb3:=b_ w2 (.cells #[.int .i64 v.log,.slice A Y.P.n c,.int .u64 (v.floor:Int),.int .u64 (v.cert:Int),.int .u64 (v.at_:Int),.int .u64 (v.lease:Int)] 86);have hbq:=az hbz hb3;have hx3:=hx2.below hb3;have f0:=hx3.free 0;have f1:=hx3.free 1;have f2:=hx3.free 2;have f3:=hx3.free 3;have s0:=hx3.c0;have s1:=hx3.c1;have s2:=hx3.c2;have s3:=hx3.c3;have HQ:=H_ hbq;clear HV HB hbz hx2 hb3 hbq hx3 hb2;go_wp2;refine bodyPost_ret (v:=.agg #[.int .u64 (v.floor:Int),.int .u64 (v.cert:Int),.int .u64 (v.at_:Int),.int .u64 (v.lease:Int)]) (by simp[results,go_sem, *]) rfl ⟨rfl,?_⟩;exact(((HQ.out.setCell (p:=⟨w.heap.size,0,none⟩) l_ _).setCell (p:=⟨w.heap.size,1,none⟩) l_ _).setCell (p:=⟨w.heap.size,2,none⟩) l_ _).setCell (p:=⟨w.heap.size,3,none⟩) l_ _
theorem uk2 (h:SvAt w X S Y V) (hn:V.st.length≤1000000) (s:Int):
  Calls Tryz.prog 55 #[.pointer (some ⟨Y.s,0,none⟩),.int .i64 s] w (cw1 w (V.st.filter fun a=>a.s==s)):=by
 have c5:=h.box.cell 5;simp only[Yw.cells,gE0,gE1]at c5;have HS:=H_ (dq3 Y.A.a Y.A.n Y.A.c V.st s w (by rw[h.alen];omega) h.st.now.row);clear h;go_enter Tryz.func55,Tryz.ntmps55;go_wp2_with fail;refine HS.out.mono ?_;rintro e w1 ⟨A',k,rfl,h1⟩;have H1:=H_ h1;clear h1;go_wp2;go_ret;exact⟨A',k,rfl,H1.out⟩
theorem sq2 (h:SvAt w X S Y V) (hnm:V.nm.length≤1000):
  Calls Tryz.prog 68 #[.pointer (some ⟨Y.s,0,none⟩)] w (uy X Y w (St.sync S V)):=by
 obtain⟨R,hR⟩:=n_ (St.sync S V);have hR0:=hR;unfold St.sync at hR;rw[←hR0];clear hR0;have c10:=h.box.cell 10;have c2:=h.box.cell 2;simp only[Yw.cells,gE0,gE1]at c10 c2;have HH:=H_ h
 cases ho:V.only with
 |true=>
  rw[if_pos ho]at hR;rw[ho]at c10;have HZ:Hid (uy X Y w R (.returned (.int .i64 14)) w):=H_ (by rw[hR];exact⟨rfl,cj1.refl h⟩);clear hR ho h;go_enter Tryz.func68,Tryz.ntmps68;go_wp2;go_ret;exact HZ.out
 |false=>
 rw[if_neg (by simp[ho])]at hR;rw[ho]at c10;have hls:=yq1 X S Y.g V.nm V.sz V.ct w hnm h.dm h.log (h.apart.x _ (Yw.aj.2 (.inr (.inr (.inl rfl)))));obtain⟨r,hr⟩:=n_ (S.sync V.nm);rw[←hr]at hls hR;obtain⟨S1,er⟩:=r;simp only at hls hR;have HLS:=H_ hls;have HR:=H_ hR;clear hls hR hr h;go_enter Tryz.func68,Tryz.ntmps68;go_wp2_with fail;refine HLS.out.mono ?_;rintro e w1 ⟨rfl,hu⟩;obtain⟨X1,e1,hs1,hc1,hf1⟩:=HH.out.disk hu
 by_cases h0:er=0
 ·subst h0
  have HZ:Hid (uy X Y w R (.returned (.int .i64 0)) w1):=H_ (by
   have:=HR.out;rw[if_pos rfl]at this;rw[this];exact⟨rfl,X1,Y,e1,rfl,hs1,hc1,hf1,.inl rfl⟩)
  clear hs1 hc1 hf1 hu e1;go_wp2;go_ret;exact HZ.out
 ·have e3:((er:Int)==0)=false:=by simp;omega
  have hcl:=jq2 hs1 er;have HCL:=H_ hcl;have HU:=H_ (d_ e1 (d_ hc1 hf1));clear hcl hs1 hc1 hf1 hu e1;go_wp2_with fail;refine HCL.out.mono ?_;rintro e w2 ⟨rfl,hs2,hc2⟩;have HZ:Hid (uy X Y w R (.returned (.int .i64 (er:Int))) w2):=H_ (by
   have:=HR.out;rw[if_neg h0]at this;rw[this];exact⟨rfl,X1,Y,HU.out.1,rfl,hs2,HU.out.2.1.trans hc2 HU.out.2.2,HU.out.2.2,.inl rfl⟩)
  clear hs2 hc2;go_wp2;go_ret;exact HZ.out
end
section
open Go Go.RowKit Go.Lib Go.Shelf
variable {w w1 w2:World} {X X1 X2:Dw} {S S1 S2:Sd} {Y Y1 Y2:Yw} {V V1 V2:Sv}
def St.may1 (a b:Nat):Prop:=a≤281474976710656∧(a=0→b=0)
def St.tz1 (m was:Mt):Prop:=St.may1 m.floor was.floor∧St.may1 m.cert was.cert∧St.may1 m.at_ was.at_∧St.may1 m.lease was.lease
def St.setMeta (S:Sd) (V:Sv) (m:Mt):Sd×Sv×Nat:=if V.only=true then (S,V,14) else St.saved S V ⟨[],[],0,m.floor,m.cert,m.at_,m.lease⟩
def pairs (m was:Mt):List Value:=[.int .u64 (m.floor:Int),.int .u64 (was.floor:Int),.int .u64 (m.cert:Int),.int .u64 (was.cert:Int),.int .u64 (m.at_:Int),.int .u64 (was.at_:Int),.int .u64 (m.lease:Int),.int .u64 (was.lease:Int)]
theorem by5 {m was:Mt} (h:St.tz1 m was) {k:Nat} (hk:k < 4):∃a b:Nat,(pairs m was)[k *2]?=some (.int .u64 (a:Int))∧(pairs m was)[k *2+1]?=some (.int .u64 (b:Int))∧St.may1 a b:=by
 obtain⟨h0,h1,h2,h3⟩:=h
 match k,hk with
 |0,_=>exact⟨_,_,rfl,rfl,h0⟩
 |1,_=>exact⟨_,_,rfl,rfl,h1⟩
 |2,_=>exact⟨_,_,rfl,rfl,h2⟩
 |3,_=>exact⟨_,_,rfl,rfl,h3⟩
theorem my3.up {w0:World} (hb:Below w0.heap.size w0 w) (h:my3 X Y w w1 S1 V1):cj1 X Y w0 w1 S1 V1:=let ⟨X',P',a,b,c,d,_⟩:=h;⟨X',{ Y with P:=P' },a,rfl,b,(Chg.of_below hb _).trans c (fun g hg=>.inl hg),fun g hg=>(d g hg).imp (fun z=>z) (h_ hb.size),.inl rfl⟩
theorem ux1 (h:SvAt w X S Y V) (m:Mt) (hm:St.tz1 m (St.oz V)) (hvf:V.M.v.files.length≤40) (hc0:V.M.count≤1000000000) (hnl:V.M.name.length≤1000):
  Calls Tryz.prog 57 #[.pointer (some ⟨Y.s,0,none⟩),m.val] w (uy X Y w (St.setMeta S V m)):=by
 obtain⟨R,hR⟩:=n_ (St.setMeta S V m);have hR0:=hR;unfold St.setMeta at hR;rw[←hR0];clear hR0;have hb1:=b_ w (.cells #[.int .u64 (m.floor:Int),.int .u64 (m.cert:Int),.int .u64 (m.at_:Int),.int .u64 (m.lease:Int)] 47);have hbx:=BoxO.new w #[.int .u64 (m.floor:Int),.int .u64 (m.cert:Int),.int .u64 (m.at_:Int),.int .u64 (m.lease:Int)] 47;have h1:=h.below hb1;have c10:=h1.box.cell 10;simp only[Yw.cells,gE0,gE1]at c10;have hme:=xx h1 (by omega);obtain⟨b,hb⟩:=n_ (St.oz V);rw[←hb]at hme hm;unfold Mt.val at hme ⊢;have HH:=H_ h;have HB:=H_ (d_ hb1 hbx);have HME:=H_ hme;have HM:=H_ hm
 cases ho:V.only with
 |true=>
  rw[if_pos ho]at hR;rw[ho]at c10;have HZ:Hid (∀w',Below w.heap.size w w'→uy X Y w R (.returned (.int .i64 14)) w'):=H_ (fun w' hq=>by rw[hR];exact⟨rfl,cj1.same h hq⟩);have HY:=H_ (HZ.out _ hb1);clear hR ho h h1 hme hm hb HZ hb1 hbx;go_enter Tryz.func57,Tryz.ntmps57;go_wp2;go_ret;exact HY.out
 |false=>
 rw[if_neg (by simp[ho])]at hR;rw[ho]at c10;have HR:=H_ hR;clear hR ho h h1 hme hm hb hb1 hbx;go_enter Tryz.func57,Tryz.ntmps57;go_wp2_with fail;refine HME.out.mono ?_;rintro e w2 ⟨rfl,hb2⟩;have hx2:=HB.out.2.below hb2;have hbz:=az HB.out.1 hb2;have hb3:=b_ w2 (.cells #[.int .u64 (b.floor:Int),.int .u64 (b.cert:Int),.int .u64 (b.at_:Int),.int .u64 (b.lease:Int)] 47);have hx3:=hx2.below hb3;have hbq:=az hbz hb3;have s0:=hx3.c0;have s1:=hx3.c1;have s2:=hx3.c2;have s3:=hx3.c3;have hP:=BoxO.new (w2.alloc (.cells #[.int .u64 (b.floor:Int),.int .u64 (b.cert:Int),.int .u64 (b.at_:Int),.int .u64 (b.lease:Int)] 47)) (pairs m b).toArray 190;have hx4:=hx3.alloc (.cells (pairs m b).toArray 190);have hb4:=az hbq (b_ _ (.cells (pairs m b).toArray 190));rw[A_]at hP;unfold pairs at hP hx4 hb4;obtain⟨W,hW⟩:=n_ ((w2.alloc (.cells #[.int .u64 (b.floor:Int),.int .u64 (b.cert:Int),.int .u64 (b.at_:Int),.int .u64 (b.lease:Int)] 47)).alloc (.cells [.int .u64 (m.floor:Int),.int .u64 (b.floor:Int),.int .u64 (m.cert:Int),.int .u64 (b.cert:Int),.int .u64 (m.at_:Int),.int .u64 (b.at_:Int),.int .u64 (m.lease:Int),.int .u64 (b.lease:Int)].toArray 190));rw[←hW]at hP hx4 hb4;have HP:Hid (BoxO W 190 (w2.heap.size+1) (pairs m b)):=H_ hP;have HX4:=H_ hx4;have HB4:=H_ hb4;have HW:=H_ hW;clear HME hP hx4 hb4 hW hx2 hb2 hbz hb3 hx3 hbq;go_wp2_with fail;simp only[List.toArray]at HW;rw[←HW.out];generalize w2.heap.size+1=gp at *;generalize w.heap.size=gm at HX4;clear s0 s1 s2 s3
 go_loopw [36] (fun i wr=>∃k:Nat,k≤4∧i=.int .i64 (k:Int)∧Below W.heap.size W wr) (fun i _=>4 - (intOf i).toNat)
 case atStart=>exact⟨0,t_ _,rfl,Below.refl _ _⟩
 case round=>
  obtain⟨k,hk,rfl,hbl⟩:=hrel
  by_cases hlt:k < 4
  ·obtain⟨x,y,hx,hy,hxm,hxy⟩:=by5 HM.out hlt
   have q0:=(HP.out.below hbl).cell (k *2);have q1:=(HP.out.below hbl).cell (k *2+1);rw[hx]at q0;rw[hy]at q1;have hkn:(k:Int) < 4:=by omega
   have hwk:IntKind.i64.wrap (k:Int)=(k:Int):=F_ _ (by omega);have e1:((281474976710656:Int) < (x:Int))=False:=eq_false (by omega);have hbz:=hbl.alloc hbl.size (.cells #[.int .u64 (x:Int),.int .u64 (y:Int)] 190)
   by_cases hx0:x=0
   ·obtain rfl:=hxy hx0
    subst hx0;clear hx hy hxm hxy;go_wp2;go_roundw
    case rel=>exact⟨k+1,by omega,by go_num,hbz⟩
    case measure=>simp[intOf];omega
   ·have e2:((x:Int)==0)=false:=by simp;omega
    clear hx hy hxm hxy;go_wp2;go_roundw
    case rel=>exact⟨k+1,by omega,by go_num,hbz⟩
    case measure=>simp[intOf];omega
  ·have hkn:((k:Int) < 4)=False:=eq_false (by omega)
   have hb5:=HB4.out.trans (hbl.mono HB4.out.size);have h5:=HH.out.below hb5;have hx5:=HX4.out.below hbl;have s0:=hx5.c0;have s1:=hx5.c1;have s2:=hx5.c2;have s3:=hx5.c3;have hsv:=pv2 h5 ⟨[],[],0,m.floor,m.cert,m.at_,m.lease⟩ none 0 0 none 0 0 (by omega) (by omega) Row.nil_ Row.nil_ hvf hc0 hnl;unfold Ed.val at hsv;have HSV:=H_ hsv;have HB5:=H_ hb5;clear hsv h5 hb5 hx5;go_wp2_with fail;refine HSV.out.mono ?_;rintro e w6 ⟨rfl,hg⟩;have HZ:Hid (uy X Y w R (.returned (.int .i64 ((St.saved S V ⟨[],[],0,m.floor,m.cert,m.at_,m.lease⟩).2.2:Int))) w6):=H_ (by
    rw[HR.out];exact⟨rfl,hg.up HB5.out⟩)
   clear hg HSV s0 s1 s2 s3;go_wp2;go_ret;exact HZ.out
end
section
open Go Go.RowKit Go.Lib Go.Shelf
variable {w w1 w2:World} {X X1 X2:Dw} {S S1 S2:Sd} {Y Y1 Y2:Yw} {V V1 V2:Sv} {G F:List Nat}
def tq3 (w:World) (G:List Nat):Prop:=∀a:Addr,a.block∈G→∀v,w.cell? a=some v→∃b,v=.bool b
def uw3 (xs:List Value):Prop:=∀v∈xs,∀b,v≠.bool b
theorem qj3 (l:List It):uw3 (itc l):=by
 intro v hv b e;subst e;unfold itc at hv;rw[O_]at hv;obtain⟨x,_,h⟩:=hv;simp[It.cells]at h
theorem kq2 (l:List (Int×Int)):uw3 (ax l):=by
 intro v hv b e;subst e;unfold ax at hv;rw[O_]at hv;obtain⟨x,_,h⟩:=hv;simp at h
theorem gw3 {B n size:Nat} {A:Option Addr} {xs:List Value} (h:Row B w A n size xs) (hx:uw3 xs) (hn:tq3 w G) (c:Chg G w w1) (hB:B≤w.heap.size):Row B w1 A n size xs:=
 oq c h hB fun j hj a ha hm=>by
  obtain⟨a',e,_,hc⟩:=h.cell j hj;rw[ha]at e;injection e with e;subst e;obtain⟨b,hb⟩:=hn _ (by rw[add_block];exact hm) _ hc;exact hx _ (v_ hj) b hb
def back (w w1:World) (G:List Nat):World:={ w1 with heap:=w1.heap.mapIdx fun i o=>if i∈G then (w.heap[i]?).getD o else o }
theorem bj4 {k:Nat} (hk:k∈G) (hw:k < w.heap.size) (h1:k < w1.heap.size):(back w w1 G).heap[k]?=w.heap[k]?:=by
 unfold back;simp only[Array.getElem?_mapIdx,Array.getElem?_eq_getElem h1,aK_,if_pos hk,Array.getElem?_eq_getElem hw,Option.getD_some]
theorem vx1 {k:Nat} (hk:k∉G):(back w w1 G).heap[k]?=w1.heap[k]?:=by
 unfold back;simp only[Array.getElem?_mapIdx,if_neg hk]
 cases w1.heap[k]?<;>rfl
theorem bv1:(back w w1 G).heap.size=w1.heap.size:=by simp[back]
theorem qx.tick {A:Option Addr} {n c:Nat} {l:List It} (h:qx F w fun w=>Its 0 w A n c l) (hn:tq3 w G) (k:Chg G w w1) (hG:∀g∈G,g < w.heap.size):qx F w1 fun w=>Its 0 w A n c l:=fun w2 k2=>by
 have hsz:=h_ k.size k2.size;have hb:∀g∈G,(back w w2 G).heap[g]?=w.heap[g]?:=fun g hg=>bj4 hg (hG g hg) (L_ (hG g hg) hsz);have h1:=h (back w w2 G) ⟨k2.os.trans k.os,k2.tape.trans k.tape,k2.output.trans k.output,by rw[bv1];exact hsz,fun g hg hF=>by
  by_cases hm:g∈G
  ·exact hb g hm
  ·rw[vx1 hm,k2.block g (L_ hg k.size) hF,k.block g hg hm]⟩
 refine⟨?_,h1.nc,h1.cm,h1.low⟩;have hr:=h1.row;rw[bv1]at hr;exact gw3 hr (qj3 l) (fun a ha v hv=>hn a ha v (by rw[←hv];exact(W_ (hb _ ha)).symm)) (w1:=w2) (G:=G) ⟨rfl,rfl,rfl,by rw[bv1];exact x_ _,fun g _ hm=>(vx1 hm).symm⟩ (by rw[bv1];exact x_ _)
theorem ex1.none {T:Sl} {q:List Tq} (h:ex1 w T q []) (w1:World):ex1 w1 T q []:=by
 obtain⟨h1,h2,h3,h4,h5,h6⟩:=h;have hq:q=[]:=List.map_eq_nil_iff.1 h1;subst hq;exact⟨rfl,⟨h2.len,fun j hj=>absurd hj (by simp[hcells])⟩,h3,h4,h5,fun p hp=>by cases hp⟩
theorem SvAt.tick (h:SvAt w X S Y V) (ht:V.tabs=[]) (hn:tq3 w G) (c:Chg G w w1) (hG:∀g∈G,g∉XY X Y∧NG≤g∧g < w.heap.size):SvAt w1 X S Y V:=by
 have hf:∀g∈Y.foot,g∉G:=fun g h1 h2=>(hG g h2).1 (k_ _ h1);refine⟨h.dm.chg c (fun g hg=>⟨fun hm=>(hG g hg).1 (s_ _ hm),(hG g hg).2.1⟩),h.box.chg c (hf _ (Yw.aj.2 (.inl rfl))),h.man.chg c (hf _ (Yw.aj.2 (.inr (.inl rfl)))),?_,h.pout,h.log.chg c (hf _ (Yw.aj.2 (.inr (.inr (.inl rfl))))),h.mem.chg c (fun g hg=>hf g (Yw.aj.2 ?_)),h.its,?_,h.st.tick hn c (fun g hg=>(hG g hg).2.2),h.apart,h.ng⟩
 ·exact⟨(gw3 h.row.row (kq2 _) hn c l_).up c.size,h.row.nc,h.row.cm,h.row.nb,h.row.away⟩
 ·rcases g_.1 hg with rfl|hg
  ·exact .inr (.inr (.inr (.inl rfl)))
  ·exact .inr (.inr (.inr (.inr hg)))
 ·have:=h.tabs.now
  rw[ht]at this ⊢;exact fun w2 _=>this.none w2
structure NdAt (w:World) (X:Dw) (S:Sd) (Y:Yw) (V:Sv) (nb:Nat) (id:Int) (now grace:Nat):Prop where
 at_:SvAt w X S Y V
 box:BoxO w 101 nb [.int .i64 id,.pointer (some ⟨Y.s,0,none⟩),.int .u64 (now:Int),.int .u64 (grace:Int)]
 out:nb∉XY X Y
section
variable {nb now grace:Nat} {id:Int}
theorem NdAt.below (h:NdAt w X S Y V nb id now grace) (hb:Below w.heap.size w w1):NdAt w1 X S Y V nb id now grace:=⟨h.at_.below hb,h.box.below hb,h.out⟩
theorem NdAt.tick (h:NdAt w X S Y V nb id now grace) (ht:V.tabs=[]) (hn:tq3 w G) (c:Chg G w w1) (hG:∀g∈G,g∉XY X Y∧NG≤g∧g < w.heap.size∧g≠nb):NdAt w1 X S Y V nb id now grace:=
 ⟨h.at_.tick ht hn c (fun g hg=>⟨(hG g hg).1,(hG g hg).2.1,(hG g hg).2.2.1⟩),h.box.chg c (fun hm=>(hG nb hm).2.2.2 rfl),h.out⟩
def az1 (X:Dw) (Y:Yw) (w w1:World) (S1:Sd) (V1:Sv) (nb:Nat) (id:Int) (now grace:Nat):Prop:=∃X1 Y1,X1.d=X.d∧Y1.s=Y.s∧NdAt w1 X1 S1 Y1 V1 nb id now grace∧Chg (XY X Y) w w1∧(∀g∈XY X1 Y1,g∈XY X Y∨w.heap.size≤g)∧NewA w Y Y1
theorem NdAt.upd (h:NdAt w X S Y V nb id now grace) (hu:cj1 X Y w w1 S1 V1):az1 X Y w w1 S1 V1 nb id now grace:=by
 obtain⟨X1,Y1,e,es,h1,c,f,na⟩:=hu;refine⟨X1,Y1,e,es,⟨h1,by rw[es];exact h.box.chg c h.out,fun hm=>?_⟩,c,f,na⟩
 rcases f nb hm with q|q
 ·exact h.out q
 ·have:=h.box.lt
  omega
theorem az1.same (h:NdAt w X S Y V nb id now grace) (hb:Below w.heap.size w w1):az1 X Y w w1 S V nb id now grace:=⟨X,Y,rfl,rfl,h.below hb,Chg.of_below hb _,fun _ hg=>.inl hg,.inl rfl⟩
theorem az1.trans (e1:X1.d=X.d) (e2:Y1.s=Y.s) (c:Chg (XY X Y) w w1) (hf:∀g∈XY X1 Y1,g∈XY X Y∨w.heap.size≤g) (hn:NewA w Y Y1) (k:az1 X1 Y1 w1 w2 S2 V2 nb id now grace):az1 X Y w w2 S2 V2 nb id now grace:=by
 obtain⟨X2,Y2,e3,e4,h,c2,hf2,n2⟩:=k;refine⟨X2,Y2,e3.trans e1,e4.trans e2,h,c.trans c2 hf,fun g hg=>?_,hn.trans n2 c.size⟩
 rcases hf2 g hg with h1|h1
 ·exact hf g h1
 ·exact .inr (h_ c.size h1)
theorem az1.low {B:Nat} (k:az1 X Y w1 w2 S2 V2 nb id now grace) (hb:Below w.heap.size w w1):az1 X Y w w2 S2 V2 nb id now grace:=k.trans rfl rfl (Chg.of_below hb _) (fun _ hg=>.inl hg) (.inl rfl)
end
structure Nrm (V:Sv):Prop where
 tabs:V.tabs=[]
 st:Stt V.st
 len:V.st.length≤1500
 sz:V.sz≤1000000000
 ct:V.ct≤1000000
 mem:V.mem.length≤100000
 nm:V.nm.length≤1000
 files:V.M.v.files.length≤40
 count:V.M.count≤1000000
 name:V.M.name.length≤1000
end
section
open Go Go.RowKit Go.Lib Go.Shelf
variable {w w1 w2:World}
structure Mq where
 k:Int
 frm:Int
 to_:Int
 id:Nat
 no:Nat
 A:Option Addr
 n:Nat
 c:Nat
def Mq.val (m:Mq):Value:=.agg #[.int .i64 m.k,.int .i64 m.frm,.int .i64 m.to_,.int .u64 (m.id:Int),.int .u64 (m.no:Int),.slice m.A m.n m.c]
structure Mq.Good (m:Mq) (l:List It):Prop where
 k:1≤m.k∧m.k≤10
 frm:0≤m.frm∧m.frm < 7
 to_:0≤m.to_∧m.to_ < 7
 id:m.id≤1099511627776
 no:m.no≤281474976710656
 n:m.n≤1500
 all:l.all It.ok=true
 has:m.n=0∨m.k=1∨m.k=8
theorem fz2 (x:Int) (h:0≤x∧x < 7) (w:World):Calls Tryz.prog 115 #[.int .i64 x] w fun e w'=>e=.returned (.bool true)∧w'=w:=by
 have h1:((0:Int)≤x)=True:=eq_true h.1;have h2:(x < (7:Int))=True:=eq_true h.2;go_enter Tryz.func115,Tryz.ntmps115;go_wp2;go_ret;exact⟨rfl,rfl⟩
theorem mw3 (x:Int) (h:x=1∨x=8) (w:World):Calls Tryz.prog 117 #[.int .i64 x] w fun e w'=>e=.returned (.bool true)∧w'=w:=by
 rcases h with rfl|rfl<;>
 ·go_enter Tryz.func117,Tryz.ntmps117
  go_wp2;go_ret;exact⟨rfl,rfl⟩
theorem dx3 (m:Mq) (l:List It) (w:World) (hg:m.Good l) (hr:Row w.heap.size w m.A m.n 5 (itc l)):
  Calls Tryz.prog 51 #[m.val] w fun e w'=>e=.returned (.bool true)∧Below w.heap.size w w':=by
 obtain⟨k,frm,to_,id,no,A,n,c⟩:=m;obtain⟨⟨h1,h2⟩,h3,h4,h5,h6,h7,h8,h9⟩:=hg;unfold Mq.val;simp only at h1 h2 h3 h4 h5 h6 h7 h8 h9 hr ⊢;have e1:((1:Int)≤k)=True:=eq_true h1;have e2:(k≤(10:Int))=True:=eq_true h2;have e5:((id:Int)≤(1099511627776:Int))=True:=eq_true (by omega);have e6:((no:Int)≤(281474976710656:Int))=True:=eq_true (by omega);have e7:((n:Int)≤(1500:Int))=True:=eq_true (by omega);have hb1:=b_ w (.cells #[.int .i64 k,.int .i64 frm,.int .i64 to_,.int .u64 (id:Int),.int .u64 (no:Int),.slice A n c] 33);have hbx:=BoxO.new w #[.int .i64 k,.int .i64 frm,.int .i64 to_,.int .u64 (id:Int),.int .u64 (no:Int),.slice A n c] 33;have hal:=px1 A n c l _ (by omega) ((hr.below hb1).up hb1.size);rw[h8]at hal;have HAL:=H_ hal;have HN1:=H_ (fz2 frm h3);have HN2:=H_ (fz2 to_ h4);have HB:=H_ (d_ hb1 hbx);have H9:=H_ h9;clear hal h1 h2 h3 h4 h5 h6 h7 h8 h9 hb1 hbx hr;go_enter Tryz.func51,Tryz.ntmps51;go_wp2_with fail;refine(HN1.out _).mono ?_;rintro e w1 ⟨rfl,rfl⟩;go_wp2_with fail;refine(HN2.out _).mono ?_;rintro e w1 ⟨rfl,rfl⟩;go_wp2_with fail
 with_reducible refine HAL.out.mono ?_
 rintro e w1 ⟨rfl,hb2⟩;have hbz:=az HB.out.1 hb2;have hx2:=HB.out.2.below hb2;have c0:=hx2.c0;have c5:=hx2.c5;clear hx2 HB HAL hb2
 by_cases hn:n=0
 ·subst hn
  go_wp2;go_ret;exact⟨rfl,hbz⟩
 ·have e0:((n:Int)==0)=false:=by simp;omega
  have HWI:=H_ (mw3 k (H9.out.resolve_left hn));go_wp2_with fail;refine(HWI.out _).mono ?_;rintro e w2 ⟨rfl,rfl⟩;go_wp2;go_ret;exact⟨rfl,hbz⟩
theorem tv3 (a:It) (f:Nat) (m:Mt) (b:Nat) (w:World) (hc:w.cell? ⟨b,0,none⟩=some (.int .u64 (m.floor:Int))):
  Calls Tryz.prog 119 (#[a.val] ++#[.pointer (some ⟨b,0,none⟩)]) w fun e w'=>e=.returned (.bool (decide (a.v≤m.floor)))∧Below w.heap.size w w':=by
 have hb0:=b_ w (.cells #[.int .i64 a.s,.int .i64 a.k,.int .u64 (a.t:Int),.int .u64 (a.v:Int),.int .i64 a.x] 36);have hc1:∀o,(w.alloc o).cell? ⟨b,0,none⟩=some (.int .u64 (m.floor:Int)):=fun o=>(af_ w o _ (V_ w _ hc)).trans hc;unfold It.val;go_enter Tryz.func119,Tryz.ntmps119;go_wp2;go_ret;exact⟨rfl,hb0⟩
theorem cx4 (m:Mt) (A:Option Addr) (n c:Nat) (l:List It) (w:World) (hn:n≤1000000) (hr:Row w.heap.size w A n 5 (itc l)):
  Calls Tryz.prog 53 #[m.val,.slice A n c] w fun e w'=>e=.returned (.bool (!l.any fun a=>decide (a.v≤m.floor)))∧Below w.heap.size w w':=by
 have hbV:=b_ w (.cells #[.int .u64 (m.floor:Int),.int .u64 (m.cert:Int),.int .u64 (m.at_:Int),.int .u64 (m.lease:Int)] 47);have hbx:=BoxO.new w #[.int .u64 (m.floor:Int),.int .u64 (m.cert:Int),.int .u64 (m.at_:Int),.int .u64 (m.lease:Int)] 47;have ho:=qy1 119 (fun _ _=>rfl) #[.pointer (some ⟨w.heap.size,0,none⟩)] (fun a=>decide (a.v≤m.floor)) A n c l _ hn ((hr.below hbV).up hbV.size)
  (fun x w1 hw=>tv3 x 0 m w.heap.size w1 (by rw[(hbx.below hw).cell];rfl))
 obtain⟨b,hb⟩:=n_ (l.any fun a=>decide (a.v≤m.floor));rw[←hb]at ho ⊢;have HO:=H_ ho;unfold Mt.val;clear ho hr hbx hb;go_enter Tryz.func53,Tryz.ntmps53;go_wp2_with fail
 with_reducible refine HO.out.mono ?_
 rintro e w1 ⟨rfl,h1⟩;have H:=H_ (az hbV h1);clear h1 HO hbV;go_wp2;go_ret;exact⟨rfl,H.out⟩
theorem ik4 (m:Mt) (f:Nat) (w:World):
  Calls Tryz.prog 56 #[m.val,.int .u64 (f:Int)] w fun e w'=>e=.returned (if f < m.floor∨f=0∨281474976710656 < f then .tuple #[.agg #[.int .u64 0,.int .u64 0,.int .u64 0,.int .u64 0],.bool false] else .tuple #[Mt.val { m with floor:=f },.bool true])∧Below w.heap.size w w':=by
 have hb2:∀o1 o2,Below w.heap.size w ((w.alloc o1).alloc o2):=fun o1 o2=>(b_ w o1).alloc (by simp) o2;unfold Mt.val;simp only;obtain⟨fl,ce,a_,le⟩:=m;simp only
 by_cases h1:(f:Int) < (fl:Int)
 ·rw[if_pos (.inl (by omega))]
  have HB:=H_ hb2;clear hb2;go_enter Tryz.func56,Tryz.ntmps56;go_wp2;exact bodyPost_ret (v:=.tuple #[.agg #[.int .u64 0,.int .u64 0,.int .u64 0,.int .u64 0],.bool false]) (by simp[results,go_sem]) rfl ⟨rfl,HB.out _ _⟩
 by_cases h2:f=0
 ·rw[if_pos (.inr (.inl h2))]
  subst h2;have HB:=H_ hb2;clear hb2;go_enter Tryz.func56,Tryz.ntmps56;go_wp2;exact bodyPost_ret (v:=.tuple #[.agg #[.int .u64 0,.int .u64 0,.int .u64 0,.int .u64 0],.bool false]) (by simp[results,go_sem]) rfl ⟨rfl,HB.out _ _⟩
 have e2:((f:Int)==0)=false:=by simp;omega
 by_cases h3:(281474976710656:Int) < (f:Int)
 ·rw[if_pos (.inr (.inr (by omega)))]
  have HB:=H_ hb2;clear hb2;go_enter Tryz.func56,Tryz.ntmps56;go_wp2;exact bodyPost_ret (v:=.tuple #[.agg #[.int .u64 0,.int .u64 0,.int .u64 0,.int .u64 0],.bool false]) (by simp[results,go_sem]) rfl ⟨rfl,HB.out _ _⟩
 rw[if_neg (by omega)];have HB:=H_ hb2;clear hb2;go_enter Tryz.func56,Tryz.ntmps56;go_wp2;exact bodyPost_ret (v:=.tuple #[.agg #[.int .u64 (f:Int),.int .u64 (ce:Int),.int .u64 (a_:Int),.int .u64 (le:Int)],.bool true]) (by simp[results,go_sem]) rfl ⟨rfl,HB.out _ _⟩
end
section
open Go Go.RowKit Go.Lib Go.Shelf
variable {w w1 w2:World}
def isNd (x:Int):Bool:=decide (0≤x) &&decide (x < 7)
def zz2 (k:Int):Bool:=k==1||k==5||k==7||k==8
def Mq.ok (m:Mq) (l:List It):Bool:=decide (1≤m.k) &&(decide (m.k≤10) &&(isNd m.frm&&(isNd m.to_&&(decide (m.id≤1099511627776) &&(decide (m.no≤281474976710656) &&(l.all It.ok&&(m.n==0||zz2 m.k)))))))
theorem jv2 (x:Int) (w:World):Calls Tryz.prog 115 #[.int .i64 x] w fun e w'=>e=.returned (.bool (isNd x))∧w'=w:=by
 obtain⟨r,hr⟩:=n_ (isNd x);rw[←hr];unfold isNd at hr
 by_cases h1:(0:Int)≤x
 ·by_cases h2:x < (7:Int)
  ·have HB:=H_ (hr.trans (show _=true by simp[h1,h2]))
   clear hr;go_enter Tryz.func115,Tryz.ntmps115;go_wp2;go_ret;exact⟨gy HB.out.symm,rfl⟩
  ·have HB:=H_ (hr.trans (show _=false by simp[h1,h2]))
   clear hr;go_enter Tryz.func115,Tryz.ntmps115;go_wp2;go_ret;exact⟨gy HB.out.symm,rfl⟩
 ·have HB:=H_ (hr.trans (show _=false by simp[h1]))
  clear hr;go_enter Tryz.func115,Tryz.ntmps115;go_wp2;go_ret;exact⟨gy HB.out.symm,rfl⟩
theorem nv3 (x:Int) (w:World):Calls Tryz.prog 117 #[.int .i64 x] w fun e w'=>e=.returned (.bool (zz2 x))∧w'=w:=by
 by_cases h:x=1∨x=5∨x=7∨x=8
 ·rcases h with rfl|rfl|rfl|rfl<;>
  ·go_enter Tryz.func117,Tryz.ntmps117
   go_wp2;go_ret;exact⟨rfl,rfl⟩
 ·have e1:(x==1)=false:=by simp;omega
  have e5:(x==5)=false:=by simp;omega
  have e7:(x==7)=false:=by simp;omega
  have e8:(x==8)=false:=by simp;omega
  have HB:Hid (zz2 x=false):=H_ (by unfold zz2;rw[e1,e5,e7,e8];rfl);go_enter Tryz.func117,Tryz.ntmps117;go_wp2;go_ret;exact⟨gy HB.out.symm,rfl⟩
theorem lq2 (m:Mq) (l:List It) (w:World) (hn:m.n≤1500) (hr:Row w.heap.size w m.A m.n 5 (itc l)):
  Calls Tryz.prog 51 #[m.val] w fun e w'=>e=.returned (.bool (m.ok l))∧Below w.heap.size w w':=by
 obtain⟨k,frm,to_,id,no,A,n,c⟩:=m;obtain⟨r,hrr⟩:=n_ (Mq.ok ⟨k,frm,to_,id,no,A,n,c⟩ l);rw[←hrr];unfold Mq.ok at hrr;unfold Mq.val;simp only at hn hr hrr ⊢;have e7:((n:Int)≤(1500:Int))=True:=eq_true (by omega);have hb1:=b_ w (.cells #[.int .i64 k,.int .i64 frm,.int .i64 to_,.int .u64 (id:Int),.int .u64 (no:Int),.slice A n c] 33);have hbx:=BoxO.new w #[.int .i64 k,.int .i64 frm,.int .i64 to_,.int .u64 (id:Int),.int .u64 (no:Int),.slice A n c] 33;have hal:=px1 A n c l _ (by omega) ((hr.below hb1).up hb1.size);obtain⟨ab,hab⟩:=n_ (l.all It.ok);rw[←hab]at hal hrr;obtain⟨bf,hbf⟩:∃b,b=isNd frm:=⟨_,rfl⟩;obtain⟨bt,hbt⟩:∃b,b=isNd to_:=⟨_,rfl⟩;obtain⟨bh,hbh⟩:∃b,b=zz2 k:=⟨_,rfl⟩;have hn1:=fun W=>jv2 frm W;have hn2:=fun W=>jv2 to_ W;have hwi:=fun W=>nv3 k W;rw[←hbf]at hn1 hrr;rw[←hbt]at hn2 hrr;rw[←hbh]at hwi hrr;have HAL:=H_ hal;have HN1:=H_ hn1;have HN2:=H_ hn2;have HWI:=H_ hwi;have HB:=H_ (d_ hb1 hbx);have HB1:=H_ hb1;have HRR:=H_ hrr;clear hal hn1 hn2 hwi hb1 hbx hr hab hbf hbt hbh hrr
 by_cases h1:(1:Int)≤k
 ·by_cases h2:k≤(10:Int)
  ·cases bf with
   |false=>
    have HZ:Hid (r=false):=H_ (by rw[HRR.out];simp[h1,h2]);go_enter Tryz.func51,Tryz.ntmps51;go_wp2_with fail;refine(HN1.out _).mono ?_;rintro e w1 ⟨rfl,rfl⟩;go_wp2;go_ret;exact⟨gy HZ.out.symm,HB1.out⟩
   |true=>
    cases bt with
    |false=>
     have HZ:Hid (r=false):=H_ (by rw[HRR.out];simp[h1,h2]);go_enter Tryz.func51,Tryz.ntmps51;go_wp2_with fail;refine(HN1.out _).mono ?_;rintro e w1 ⟨rfl,rfl⟩;go_wp2_with fail;refine(HN2.out _).mono ?_;rintro e w1 ⟨rfl,rfl⟩;go_wp2;go_ret;exact⟨gy HZ.out.symm,HB1.out⟩
    |true=>
     by_cases h5:(id:Int)≤(1099511627776:Int)
     ·by_cases h6:(no:Int)≤(281474976710656:Int)
      ·cases ab with
       |false=>
        have HZ:Hid (r=false):=H_ (by rw[HRR.out];simp[h1,h2,show id≤1099511627776 by omega,show no≤281474976710656 by omega]);go_enter Tryz.func51,Tryz.ntmps51;go_wp2_with fail;refine(HN1.out _).mono ?_;rintro e w1 ⟨rfl,rfl⟩;go_wp2_with fail;refine(HN2.out _).mono ?_;rintro e w1 ⟨rfl,rfl⟩;go_wp2_with fail
        with_reducible refine HAL.out.mono ?_
        rintro e w1 ⟨rfl,hb2⟩;have hbz:=az HB.out.1 hb2;have hx2:=HB.out.2.below hb2;have c0:=hx2.c0;have c5:=hx2.c5;have HBZ:=H_ hbz;clear hx2 HB HAL hb2 hbz HB1;go_wp2;go_ret;exact⟨gy HZ.out.symm,HBZ.out⟩
       |true=>
        by_cases h9:n=0
        ·subst h9
         have HZ:Hid (r=true):=H_ (by rw[HRR.out];simp[h1,h2,show id≤1099511627776 by omega,show no≤281474976710656 by omega]);go_enter Tryz.func51,Tryz.ntmps51;go_wp2_with fail;refine(HN1.out _).mono ?_;rintro e w1 ⟨rfl,rfl⟩;go_wp2_with fail;refine(HN2.out _).mono ?_;rintro e w1 ⟨rfl,rfl⟩;go_wp2_with fail
         with_reducible refine HAL.out.mono ?_
         rintro e w1 ⟨rfl,hb2⟩;have hbz:=az HB.out.1 hb2;have hx2:=HB.out.2.below hb2;have c0:=hx2.c0;have c5:=hx2.c5;have HBZ:=H_ hbz;clear hx2 HB HAL hb2 hbz HB1;go_wp2;go_ret;exact⟨gy HZ.out.symm,HBZ.out⟩
        ·have e0:((n:Int)==0)=false:=by simp;omega
         cases bh with
         |false=>
          have HZ:Hid (r=false):=H_ (by rw[HRR.out];simp[h1,h2,show id≤1099511627776 by omega,show no≤281474976710656 by omega,h9]);go_enter Tryz.func51,Tryz.ntmps51;go_wp2_with fail;refine(HN1.out _).mono ?_;rintro e w1 ⟨rfl,rfl⟩;go_wp2_with fail;refine(HN2.out _).mono ?_;rintro e w1 ⟨rfl,rfl⟩;go_wp2_with fail
          with_reducible refine HAL.out.mono ?_
          rintro e w1 ⟨rfl,hb2⟩;have hbz:=az HB.out.1 hb2;have hx2:=HB.out.2.below hb2;have c0:=hx2.c0;have c5:=hx2.c5;have HBZ:=H_ hbz;clear hx2 HB HAL hb2 hbz HB1;go_wp2_with fail;refine(HWI.out _).mono ?_;rintro e w2 ⟨rfl,rfl⟩;go_wp2;go_ret;exact⟨gy HZ.out.symm,HBZ.out⟩
         |true=>
          have HZ:Hid (r=true):=H_ (by rw[HRR.out];simp[h1,h2,show id≤1099511627776 by omega,show no≤281474976710656 by omega,h9]);go_enter Tryz.func51,Tryz.ntmps51;go_wp2_with fail;refine(HN1.out _).mono ?_;rintro e w1 ⟨rfl,rfl⟩;go_wp2_with fail;refine(HN2.out _).mono ?_;rintro e w1 ⟨rfl,rfl⟩;go_wp2_with fail
          with_reducible refine HAL.out.mono ?_
          rintro e w1 ⟨rfl,hb2⟩;have hbz:=az HB.out.1 hb2;have hx2:=HB.out.2.below hb2;have c0:=hx2.c0;have c5:=hx2.c5;have HBZ:=H_ hbz;clear hx2 HB HAL hb2 hbz HB1;go_wp2_with fail;refine(HWI.out _).mono ?_;rintro e w2 ⟨rfl,rfl⟩;go_wp2;go_ret;exact⟨gy HZ.out.symm,HBZ.out⟩
      ·have HZ:Hid (r=false):=H_ (by rw[HRR.out];simp[h1,h2,show id≤1099511627776 by omega,show ¬no≤281474976710656 by omega])
       go_enter Tryz.func51,Tryz.ntmps51;go_wp2_with fail;refine(HN1.out _).mono ?_;rintro e w1 ⟨rfl,rfl⟩;go_wp2_with fail;refine(HN2.out _).mono ?_;rintro e w1 ⟨rfl,rfl⟩;go_wp2;go_ret;exact⟨gy HZ.out.symm,HB1.out⟩
     ·have HZ:Hid (r=false):=H_ (by rw[HRR.out];simp[h1,h2,show ¬id≤1099511627776 by omega])
      go_enter Tryz.func51,Tryz.ntmps51;go_wp2_with fail;refine(HN1.out _).mono ?_;rintro e w1 ⟨rfl,rfl⟩;go_wp2_with fail;refine(HN2.out _).mono ?_;rintro e w1 ⟨rfl,rfl⟩;go_wp2;go_ret;exact⟨gy HZ.out.symm,HB1.out⟩
  ·have HZ:Hid (r=false):=H_ (by rw[HRR.out];simp[h1,h2])
   go_enter Tryz.func51,Tryz.ntmps51;go_wp2;go_ret;exact⟨gy HZ.out.symm,HB1.out⟩
 ·have HZ:Hid (r=false):=H_ (by rw[HRR.out];simp[h1])
  go_enter Tryz.func51,Tryz.ntmps51;go_wp2;go_ret;exact⟨gy HZ.out.symm,HB1.out⟩
end
end Go.Proofs.YthjdpplgfdihoaaGreatDoor
