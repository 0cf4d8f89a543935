/- Texts StoH, NodA, StoD, NodB, NodC, StateM, RangeTwo, StoJ, PlainList, PlainAwake, LawT, StoE, StoG, StoF, KeepA, HasA, HasB, StoK, LawU in one. No conditions. -/
import Derived.Test.YthjdpplgfdihoaaGreatDoorBunAA
import Derived.Test.YthjdpplgfdihoaaGreatDoorBunAO
import Derived.Test.YthjdpplgfdihoaaGreatDoorBunAI
import Derived.Test.YthjdpplgfdihoaaGreatDoorBunAL
import Derived.RangeFuncWrites
import Derived.Test.YthjdpplgfdihoaaGreatDoorBunAE
import Derived.Sort.KeysCollected
import Derived.Test.YthjdpplgfdihoaaGreatDoorBunAM
import Derived.MapKept
import Derived.ChangeMaps4
import Derived.Test.YthjdpplgfdihoaaGreatDoorBunAJ

set_option linter.unusedSimpArgs false
set_option linter.unusedVariables false
set_option maxRecDepth 100000
set_option maxHeartbeats 16000000
namespace Go.Proofs.YthjdpplgfdihoaaGreatDoor
section
open Go Go.RowKit Go.Lib Go.Shelf
variable {w w1 w2:World} {X X1 X2:Dw} {S S1 S2:Sd} {Y Y1 Y2:Yw} {V V1 V2:Sv}
theorem SvAt.put (h:SvAt w X S Y V) (e:X1.d=X.d) (hd:Dm w1 X1 S1) (c:Chg (Y.g::X.foot) w w1) (hf:∀g∈X1.foot,g∈X.foot∨w.heap.size≤g) {sz ct:Nat} (hl:LgAt w1 Y.g X.d V.nm sz ct):SvAt w1 X1 S1 Y { V with sz:=sz,ct:=ct }∧Chg (XY X Y) w w1∧∀g∈XY X1 Y,g∈XY X Y∨w.heap.size≤g:=by
 have hn:∀g∈Y.foot,g∉X.foot:=h.apart.x;have hgf:Y.g∈Y.foot:=Yw.aj.2 (.inr (.inr (.inl rfl)));have hc2:Chg (XY X Y) w w1:=c.mono fun g hg=>.inl (by
  rcases List.mem_cons.1 hg with rfl|hg
  ·exact List.mem_append_right _ hgf
  ·exact List.mem_append_left _ hg)
 have hf2:∀g∈XY X1 Y,g∈XY X Y∨w.heap.size≤g:=fun g hg=>by
  rcases List.mem_append.1 hg with h1|h1
  ·rcases hf g h1 with h2|h2
   ·exact .inl (List.mem_append_left _ h2)
   ·exact .inr h2
  ·exact .inl (List.mem_append_right _ h1)
 have hm:∀g∈Y.foot,g≠Y.g→g∉Y.g::X.foot:=fun g hg hne hmm=>by
  rcases List.mem_cons.1 hmm with q|q
  ·exact hne q
  ·exact hn g hg q
 have aps:=h.apart.s;have apm:=h.apart.m;have apg:=h.apart.g;refine⟨⟨hd,by rw[e];exact h.box.chg c (hm _ (Yw.aj.2 (.inl rfl)) (fun e=>aps (by rw[e];exact List.mem_cons_of_mem _ List.mem_cons_self))),by rw[e];exact h.man.chg c (hm _ (Yw.aj.2 (.inr (.inl rfl))) (fun e=>apm (by rw[e];exact List.mem_cons_self))),?_,h.pout,by rw[e];exact hl,h.mem.chg c (fun g hg=>hm g (Yw.aj.2 ?_) (fun e=>apg (by rw[←e];exact hg))),h.its,h.tabs.step hc2 hf2,h.st.step hc2 hf2,⟨fun g hg hmm=>?_,aps,apm,apg⟩,h.ng⟩,hc2,hf2⟩
 ·refine⟨(yj c h.row.row (Nat.le_refl _) (fun j hj a ha hmm=>?_)).up c.size,h.row.nc,h.row.cm,h.row.nb,fun j hj a ha=>⟨(h.row.away j hj a ha).1,fun hmm=>?_⟩⟩
  ·rcases List.mem_cons.1 hmm with q|q
   ·exact h.pout j hj a ha (by rw[q];exact hgf)
   ·exact(h.row.away j hj a ha).2 q
  ·rcases hf _ hmm with h1|h1
   ·exact(h.row.away j hj a ha).2 h1
   ·obtain⟨b,e,q1,_⟩:=h.row.row.cell j hj
    rw[ha]at e;injection e with e;subst e;omega
 ·rcases List.mem_cons.1 hg with rfl|hg
  ·exact .inr (.inr (.inr (.inl rfl)))
  ·exact .inr (.inr (.inr (.inr hg)))
 ·rcases hf g hmm with h1|h1
  ·exact hn g hg h1
  ·have:=h.ylt g hg
   omega
theorem SvAt.mput (h:SvAt w X S Y V) {ns':List Nd} (hm:MmAt w1 Y.mm Y.L ns') (c:Chg (Y.mm::skF Y.L Y.ns) w w1) (hf:∀g∈skF Y.L ns',g∈skF Y.L Y.ns∨w.heap.size≤g):SvAt w1 X S { Y with ns:=ns' } { V with mem:=Go.Proofs.YthjdpplgfdihoaaGreatDoor.its ns' }∧Chg (XY X Y) w w1∧∀g∈XY X { Y with ns:=ns' },g∈XY X Y∨w.heap.size≤g:=by
 have hin:∀g∈Y.mm::skF Y.L Y.ns,g∈Y.foot:=fun g hg=>Yw.aj.2 (by
  rcases List.mem_cons.1 hg with rfl|hg
  ·exact .inr (.inr (.inr (.inl rfl)))
  ·exact .inr (.inr (.inr (.inr hg))))
 have hc2:Chg (XY X Y) w w1:=c.mono fun g hg=>.inl (List.mem_append_right _ (hin g hg));have hmf:∀g∈Y.mm::skF Y.L ns',g∈Y.mm::skF Y.L Y.ns∨w.heap.size≤g:=fun g hg=>by
  rcases List.mem_cons.1 hg with rfl|hg
  ·exact .inl List.mem_cons_self
  ·exact(hf g hg).imp (List.mem_cons_of_mem _) id
 have hf1:∀g∈({ Y with ns:=ns' }:Yw).foot,g∈Y.foot∨w.heap.size≤g:=fun g hg=>by
  rcases Yw.aj.1 hg with q|q|q|q|q
  ·exact .inl (Yw.aj.2 (.inl q))
  ·exact .inl (Yw.aj.2 (.inr (.inl q)))
  ·exact .inl (Yw.aj.2 (.inr (.inr (.inl q))))
  ·exact .inl (Yw.aj.2 (.inr (.inr (.inr (.inl q)))))
  ·rcases hf g q with q|q
   ·exact .inl (Yw.aj.2 (.inr (.inr (.inr (.inr q)))))
   ·exact .inr q
 have hf2:∀g∈XY X { Y with ns:=ns' },g∈XY X Y∨w.heap.size≤g:=fun g hg=>by
  rcases List.mem_append.1 hg with q|q
  ·exact .inl (List.mem_append_left _ q)
  ·exact(hf1 g q).imp (List.mem_append_right _) id
 have aps:=h.apart.s;have apm:=h.apart.m;have apg:=h.apart.g;have hs:Y.s∉Y.mm::skF Y.L Y.ns:=fun hm=>aps (List.mem_cons_of_mem _ (List.mem_cons_of_mem _ hm));have hmm:Y.m∉Y.mm::skF Y.L Y.ns:=fun hm=>apm (List.mem_cons_of_mem _ hm);have old:∀x,x∉Y.mm::skF Y.L Y.ns→x < w.heap.size→x∉Y.mm::skF Y.L ns':=fun x h1 h2 h3=>by
  rcases hmf x h3 with q|q
  ·exact h1 q
  ·omega
 have l1:=h.box.lt;have l2:=h.man.lt;have l3:=h.log.lt;refine⟨⟨h.dm.chg c (fun g hg=>⟨h.apart.x g (hin g hg),h.ng g (hin g hg)⟩),h.box.chg c hs,h.man.chg c hmm,?_,?_,h.log.chg c apg,hm,rfl,h.tabs.step hc2 hf2,h.st.step hc2 hf2,⟨fun g hg hx=>?_,?_,?_,old _ apg l3⟩,fun g hg=>?_⟩,hc2,hf2⟩
 ·exact⟨(yj c h.row.row (Nat.le_refl _) (fun j hj a ha hx=>h.pout j hj a ha (hin _ hx))).up c.size,h.row.nc,h.row.cm,h.row.nb,h.row.away⟩
 ·intro j hj a ha hx
  rcases hf1 _ hx with q|q
  ·exact h.pout j hj a ha q
  ·obtain⟨b,e,q1,_⟩:=h.row.row.cell j hj
   rw[ha]at e;injection e with e;subst e;omega
 ·rcases hf1 g hg with q|q
  ·exact h.apart.x g q hx
  ·have:=h.dm.dk.lt g hx
   omega
 ·intro hx
  rcases List.mem_cons.1 hx with q|q
  ·exact aps (by rw[q];exact List.mem_cons_self)
  ·rcases List.mem_cons.1 q with q|q
   ·exact aps (by rw[q];exact List.mem_cons_of_mem _ List.mem_cons_self)
   ·exact old _ hs l1 q
 ·intro hx
  rcases List.mem_cons.1 hx with q|q
  ·exact apm (by rw[q];exact List.mem_cons_self)
  ·exact old _ hmm l2 q
 ·rcases hf1 g hg with q|q
  ·exact h.ng g q
  ·have:=h.dm.env.base
   omega
def NewA (w:World) (Y Y1:Yw):Prop:=Y1.A=Y.A∨∀a,Y1.A.a=some a→w.heap.size≤a.block
theorem NewA.trans (h:NewA w Y Y1) (k:NewA w1 Y1 Y2) (hs:w.heap.size≤w1.heap.size):NewA w Y Y2:=by
 rcases k with k|k
 ·rcases h with h|h
  ·exact .inl (k.trans h)
  ·exact .inr (by rw[k];exact h)
 ·exact .inr fun a ha=>Nat.le_trans hs (k a ha)
def cw1 (X:Dw) (Y:Yw) (w w1:World) (S1:Sd) (V1:Sv):Prop:=∃X1 Y1,X1.d=X.d∧Y1.s=Y.s∧SvAt w1 X1 S1 Y1 V1∧Chg (XY X Y) w w1∧(∀g∈XY X1 Y1,g∈XY X Y∨w.heap.size≤g)∧NewA w Y Y1
def wz (X:Dw) (Y:Yw) (w:World) (R:Sd×Sv×Nat) (e:Ending) (w1:World):Prop:=e=.returned (.int .i64 (R.2.2:Int))∧cw1 X Y w w1 R.1 R.2.1
theorem cw1.refl (h:SvAt w X S Y V):cw1 X Y w w S V:=⟨X,Y,rfl,rfl,h,Chg.refl _ _,fun _ hg=>.inl hg,.inl rfl⟩
theorem cw1.same (h:SvAt w X S Y V) (hb:Below w.heap.size w w1):cw1 X Y w w1 S V:=⟨X,Y,rfl,rfl,h.below hb,Chg.of_below hb _,fun _ hg=>.inl hg,.inl rfl⟩
theorem cw1.c (h:cw1 X Y w w1 S V):Chg (XY X Y) w w1:=let ⟨_,_,_,_,_,c,_⟩:=h;c
theorem bv3 (h:SvAt w X S Y V) (A:Option Addr) (n c:Nat) (l:List It) (hn:n≤100000) (hr:Row w.heap.size w A n 5 (itc l)) (hA:∀a,A=some a→a.block∉XY X Y) (hfit:∀x∈l,x.fit) (hst:Stt V.st) (hsl:V.st.length≤2000) (hsz:V.sz≤1000000000000) (hct:V.ct≤1000000000) (hml:V.mem.length≤400000) (hnm:V.nm.length≤1000):
  Calls Tryz.prog 65 #[.pointer (some ⟨Y.s,0,none⟩),.slice A n c] w (wz X Y w (St.apply S V l)):=by
 have hll:=hr.bj1;obtain⟨R,hR⟩:∃R,R=St.apply S V l:=⟨_,rfl⟩;have hR0:=hR;unfold St.apply at hR;rw[←hR0];clear hR0;have hxlt:=h.lt;have c10:=h.box.cell 10;have c5:=h.box.cell 5;simp only[Yw.cells,gE0,gE1]at c10 c5;have hal:=oy1 A n c l w (by omega) hr;obtain⟨ab,hab⟩:∃ab,ab=l.all It.ok:=⟨_,rfl⟩;have HH:=Lib.hid h;have HLL:=Lib.hid hll;have HX:=Lib.hid hxlt;have HROW:=Lib.hid hr
 cases ho:V.only with
 |true=>
  rw[if_pos ho]at hR;rw[ho]at c10;have HZ:Hid (wz X Y w R (.returned (.int .i64 14)) w):=Lib.hid (by rw[hR];exact⟨rfl,cw1.refl h⟩);clear hR ho h hr hxlt hal hab hll;go_enter Tryz.func65,Tryz.ntmps65;go_wp2;go_ret;exact HZ.out
 |false=>
 rw[if_neg (by simp[ho])]at hR;rw[ho]at c10
 by_cases h0:n=0
 ·have hl0:l=[]:=List.length_eq_zero_iff.1 (by omega)
  rw[if_pos (.inl hl0)]at hR;have HZ:Hid (wz X Y w R (.returned (.int .i64 1)) w):=Lib.hid (by rw[hR];exact⟨rfl,cw1.refl h⟩);subst h0;clear hR ho h hr hxlt hal hab hll hl0;go_enter Tryz.func65,Tryz.ntmps65;go_wp2;go_ret;exact HZ.out
 have e0:((n:Int)==0)=false:=by simp;omega
 have hl0:l≠[]:=fun e=>by rw[e]at hll;simp at hll;omega
 rw[←hab]at hal;have HAL:=Lib.hid hal
 cases ab with
 |false=>
  rw[if_pos (.inr hab.symm)]at hR;have HZ:Hid (∀w',Below w.heap.size w w'→wz X Y w R (.returned (.int .i64 1)) w'):=Lib.hid (fun w' hb=>by rw[hR];exact⟨rfl,cw1.same h hb⟩);clear hR ho h hr hxlt hal hab hll hl0;go_enter Tryz.func65,Tryz.ntmps65;go_wp2_with fail
  with_reducible refine HAL.out.mono ?_
  rintro e w2 ⟨rfl,hb2⟩;have HY:=Lib.hid (HZ.out _ hb2);clear hb2 HZ;go_wp2;go_ret;exact HY.out
 |true=>
 rw[if_neg (by intro q;rcases q with q|q;exact hl0 q;rw[←hab]at q;cases q)]at hR
 by_cases h1:1000 < n
 ·rw[if_pos (by omega)]at hR
  have HZ:Hid (∀w',Below w.heap.size w w'→wz X Y w R (.returned (.int .i64 2)) w'):=Lib.hid (fun w' hb=>by rw[hR];exact⟨rfl,cw1.same h hb⟩);have e1:((1000:Int) < (n:Int))=True:=eq_true (by omega);clear hR ho h hr hxlt hal hab hll hl0;go_enter Tryz.func65,Tryz.ntmps65;go_wp2_with fail
  with_reducible refine HAL.out.mono ?_
  rintro e w2 ⟨rfl,hb2⟩;have HY:=Lib.hid (HZ.out _ hb2);clear hb2 HZ;go_wp2;go_ret;exact HY.out
 rw[if_neg (by omega)]at hR;have e1:((1000:Int) < (n:Int))=False:=eq_false (by omega);have hit:=h.st.now;have hjn:=fun(W:World) (hb:Below w.heap.size w W)=>pj1 Y.A.a Y.A.n Y.A.c V.st A n c l W (by have:=h.alen;omega) hit.nc hit.cm hst ((hit.row.below hb).up hb.size) ((hr.below hb).up hb.size);have c5w:∀W,Below w.heap.size w W→W.cell? ⟨Y.s,5,none⟩=some (.slice Y.A.a Y.A.n Y.A.c):=fun W hb=>(hb.cell (p:=⟨Y.s,5,none⟩) h.box.lt).trans c5;obtain⟨J,hJ⟩:∃J,J=joins V.st l:=⟨_,rfl⟩;rw[←hJ]at hR hjn;have HJN:=Lib.hid hjn;have HC5:=Lib.hid c5w;have HR:=Lib.hid hR;have HJ:=Lib.hid hJ;have HAB:=Lib.hid hab;have HFS:=Lib.hid h.ylt;clear hR ho h hr hxlt hal hab hll hl0 hit hjn c5w hJ c5;go_enter Tryz.func65,Tryz.ntmps65;go_wp2_with fail
 with_reducible refine HAL.out.mono ?_
 rintro e w2 ⟨rfl,hb2⟩;have c5:=HC5.out w2 hb2;go_wp2_with fail
 with_reducible refine(HJN.out w2 hb2).mono ?_
 rintro e w3 ⟨A3,k3,rfl,hk3,hi3,hb3⟩;have hs3:=(HH.out.below hb2).below hb3;have hb23:=az hb2 hb3;have hfx3:gv1 (XY X Y) w3 fun W=>Its 0 W A3 k3 k3 J:=fun W cW=>⟨(yj cW hi3.row (Nat.le_refl _) (fun j _ a ha hm=>by
  have:=hi3.low a ha;have:=HX.out _ hm;have:=hb2.size;omega)).up cW.size,hi3.nc,hi3.cm,fun _ _=>Nat.zero_le _⟩
 have HLA:Hid (∀a,A3=some a→w.heap.size≤a.block):=Lib.hid fun a ha=>Nat.le_trans hb2.size (hi3.low a ha);have HK3:=Lib.hid hk3;have HS3:=Lib.hid hs3;have HF3:=Lib.hid hfx3;have HB:=Lib.hid hb23;clear hk3 hs3 hfx3 hi3 hb3 hb2 hb23 c5 HJN HAL HC5;have hR:=HR.out
 by_cases h2:1500 < k3
 ·rw[if_pos (by rw[←HK3.out];exact h2)]at hR
  have e2:((1500:Int) < (k3:Int))=True:=eq_true (by omega);have HZ:Hid (wz X Y w R (.returned (.int .i64 2)) w3):=Lib.hid (by rw[hR];exact⟨rfl,cw1.same HH.out HB.out⟩);clear hR h2;go_wp2;go_ret;exact HZ.out
 rw[if_neg (by rw[←HK3.out];exact h2)]at hR;have e2:((1500:Int) < (k3:Int))=False:=eq_false (by omega);have c2:=HS3.out.box.cell 2;simp only[Yw.cells,gE0,gE1]at c2;have hlp:=mq4 X S Y.g V.nm V.sz V.ct A n c l w3 hnm HS3.out.dm HS3.out.log (HS3.out.apart.x _ (Yw.aj.2 (.inr (.inr (.inl rfl))))) (HS3.out.ng _ (Yw.aj.2 (.inr (.inr (.inl rfl))))) hsz hct (by omega) (by omega) ((HROW.out.below HB.out).up HB.out.size) (fun x hx=>⟨by have:=HAB.out;rw[eq_comm,List.all_eq_true]at this;exact this x hx,hfit x hx⟩);obtain⟨a,ha⟩:∃a,a=S.append V.nm (Lg.batch l):=⟨_,rfl⟩;rw[←ha]at hlp hR;obtain⟨S4,er4⟩:=a;unfold ij3 at hlp;simp only at hlp hR;have HLP:=Lib.hid hlp;have HR2:=Lib.hid hR;clear hlp hR ha h2 HR;go_wp2_with fail
 with_reducible refine HLP.out.mono ?_
 rintro e w4 ⟨rfl,X4,e4,hd4,hc4,hf4,hl4⟩
 by_cases h4:er4=0
 ·subst h4
  rw[if_pos rfl]at hl4;obtain⟨hs4,hc4x,hf4x⟩:=HS3.out.put e4 hd4 hc4 hf4 hl4;have c3:=hs4.box.cell 3;simp only[Yw.cells,gE0,gE1]at c3;have hr4:=(yj hc4x ((HROW.out.below HB.out).up HB.out.size) (Nat.le_refl _) (fun j _ a ha=>hA a ha)).up hc4x.size;have hin:∀g∈Y.mm::skF Y.L Y.ns,g∈Y.foot:=fun g hg=>Yw.aj.2 (by
   rcases List.mem_cons.1 hg with rfl|hg
   ·exact .inr (.inr (.inr (.inl rfl)))
   ·exact .inr (.inr (.inr (.inr hg))))
  have hma:=aq2 hs4.mem A n c l (by omega) (by rw[hs4.its];exact hml) hr4 (fun a ha=>⟨fun hm=>hA a ha (List.mem_append_right _ (hin _ (by rw[hm];exact List.mem_cons_self))),fun hm=>hA a ha (List.mem_append_right _ (hin _ (List.mem_cons_of_mem _ hm)))⟩) HAB.out.symm;have HS4:=Lib.hid hs4;have HMA:=Lib.hid hma;have HC4:=Lib.hid (And.intro hc4x hf4x);have HE4:=Lib.hid e4;clear hs4 hma hr4 hc4x hf4x hc4 hf4 hd4 hl4 e4 hin HLP;go_wp2_with fail
  with_reducible refine HMA.out.mono ?_
  rintro e w5 ⟨ns',rfl,hm5,hi5,hc5,hf5⟩;obtain⟨hs5,hc5x,hf5x⟩:=HS4.out.mput hm5 hc5 hf5;have hfx5:=(HF3.out.step HC4.out.1 HC4.out.2).step hc5x hf5x;have hset:=dw3 hs5 A3 k3 k3 J hfx5;have hc:=(((Chg.of_below HB.out (XY X Y)).trans HC4.out.1 (fun g hg=>.inl hg)).trans hc5x (fun g hg=>(HC4.out.2 g hg).imp id (Nat.le_trans HB.out.size)));have hfz:∀g∈XY X4 { Y with ns:=ns' },g∈XY X Y∨w.heap.size≤g:=fun g hg=>by
   rcases hf5x g hg with q|q
   ·exact(HC4.out.2 g q).imp id (Nat.le_trans HB.out.size)
   ·exact .inr (Nat.le_trans (Nat.le_trans HB.out.size HC4.out.1.size) q)
  have HSET:=Lib.hid hset;have HC:=Lib.hid hc;have HFZ:=Lib.hid hfz;have HI5:=Lib.hid (show its ns'=l.foldl wput V.mem by rw[hi5,HS4.out.its]);clear hs5 hfx5 hset hc hfz hm5 hi5 hc5 hf5 hc5x hf5x HMA c3 c2;go_wp2_with fail
  with_reducible refine HSET.out.mono ?_
  rintro e w6 ⟨rfl,hs6,hc6⟩;have hz:wz X Y w R (.returned (.int .i64 0)) w6:=by
   rw[HR2.out,if_neg (by simp)];refine⟨rfl,X4,{ Y with ns:=ns',A:=⟨A3,k3,k3⟩ },HE4.out,rfl,?_,HC.out.trans hc6 HFZ.out,HFZ.out,.inr HLA.out⟩;rw[←HI5.out];exact hs6
  have HZ:=Lib.hid hz;clear hz hs6 hc6 HSET;go_wp2;go_ret;exact HZ.out
 ·have e3:((er4:Int)==0)=false:=by simp;omega
  rw[if_neg h4]at hl4;obtain⟨hs4,hc4x,hf4x⟩:=HS3.out.put e4 hd4 hc4 hf4 hl4;have hz:wz X Y w R (.returned (.int .i64 (er4:Int))) w4:=by
   rw[HR2.out,if_pos h4];exact⟨rfl,X4,Y,e4,rfl,hs4,(Chg.of_below HB.out (XY X Y)).trans hc4x (fun g hg=>.inl hg),fun g hg=>(hf4x g hg).imp id (Nat.le_trans HB.out.size),.inl rfl⟩
  have HZ:=Lib.hid hz;clear hz hs4 hc4x hf4x hc4 hf4 hd4 hl4 e4 HLP h4;go_wp2;go_ret;exact HZ.out
end
section
open Go Go.RowKit Go.Lib Go.Shelf
variable {w w1 w2:World} {X X1 X2:Dw} {S S1 S2:Sd} {Y Y1 Y2:Yw} {V V1 V2:Sv}
structure Mt where
 floor:Nat
 cert:Nat
 at_:Nat
 lease:Nat
def Mt.val (m:Mt):Value:=.agg #[.int .u64 (m.floor:Int),.int .u64 (m.cert:Int),.int .u64 (m.at_:Int),.int .u64 (m.lease:Int)]
namespace St
def yx (V:Sv):Mt:=⟨V.M.v.floor,V.M.v.cert,V.M.v.at_,V.M.v.lease⟩
def sync (S:Sd) (V:Sv):Sd×Sv×Nat:=
 if V.only=true then (S,V,14) else
 if (S.sync V.nm).2=0 then ((S.sync V.nm).1,V,0) else ((S.sync V.nm).1,{ V with only:=true },(S.sync V.nm).2)
end St
theorem dz1 (h:SvAt w X S Y V) (hn:V.M.v.files.length≤10000):
  Calls Tryz.prog 47 #[.pointer (some ⟨Y.s,0,none⟩)] w fun e w'=>e=.returned (St.yx V).val∧Below w.heap.size w w':=by
 have hb1:=(Below.refl w.heap.size w).alloc (Nat.le_refl _) (.cells #[.int .u64 0,.int .u64 0,.int .u64 0,.int .u64 0] 47);have hbx:=BoxO.new w #[.int .u64 0,.int .u64 0,.int .u64 0,.int .u64 0] 47;have h1:=h.below hb1;have k1:=h1.box.cell 1;simp only[Yw.cells,gE0,gE1]at k1;have hv:=rv1 X.d h1.man h1.row.row (by rw[h1.plen];exact hn);obtain⟨v,hv0⟩:∃v,v=V.M.v:=⟨_,rfl⟩;unfold St.yx Mt.val;rw[←hv0]at hv ⊢;unfold Vw.val at hv;have HV:=Lib.hid hv;have HB:=Lib.hid (And.intro hb1 hbx);clear hv hv0 h h1 hb1 hbx;go_enter Tryz.func47,Tryz.ntmps47;go_wp2_with fail;refine HV.out.mono ?_;rintro e w2 ⟨A,c,rfl,_,hb2⟩;have hbz:=az HB.out.1 hb2;have hx2:=HB.out.2.below hb2;have hb3:=(Below.refl w2.heap.size w2).alloc (Nat.le_refl _) (.cells #[.int .i64 v.log,.slice A Y.P.n c,.int .u64 (v.floor:Int),.int .u64 (v.cert:Int),.int .u64 (v.at_:Int),.int .u64 (v.lease:Int)] 86);have hbq:=az hbz hb3;have hx3:=hx2.below hb3;have f0:=hx3.free 0;have f1:=hx3.free 1;have f2:=hx3.free 2;have f3:=hx3.free 3;have s0:=hx3.cell 0;have s1:=hx3.cell 1;have s2:=hx3.cell 2;have s3:=hx3.cell 3;simp only[gE0,gE1]at s0 s1 s2 s3;have HQ:=Lib.hid hbq;clear HV HB hbz hx2 hb3 hbq hx3 hb2;go_wp2;refine bodyPost_ret (v:=.agg #[.int .u64 (v.floor:Int),.int .u64 (v.cert:Int),.int .u64 (v.at_:Int),.int .u64 (v.lease:Int)]) (by simp[results,go_sem, *]) rfl ⟨rfl,?_⟩;exact(((HQ.out.setCell (p:=⟨w.heap.size,0,none⟩) (Nat.le_refl _) _).setCell (p:=⟨w.heap.size,1,none⟩) (Nat.le_refl _) _).setCell (p:=⟨w.heap.size,2,none⟩) (Nat.le_refl _) _).setCell (p:=⟨w.heap.size,3,none⟩) (Nat.le_refl _) _
theorem sw2 (h:SvAt w X S Y V) (hn:V.st.length≤1000000) (s:Int):
  Calls Tryz.prog 55 #[.pointer (some ⟨Y.s,0,none⟩),.int .i64 s] w (ew1 w (V.st.filter fun a=>a.s==s)):=by
 have c5:=h.box.cell 5;simp only[Yw.cells,gE0,gE1]at c5;have HS:=Lib.hid (yz2 Y.A.a Y.A.n Y.A.c V.st s w (by rw[h.alen];omega) h.st.now.row);clear h;go_enter Tryz.func55,Tryz.ntmps55;go_wp2_with fail;refine HS.out.mono ?_;rintro e w1 ⟨A',k,rfl,h1⟩;have H1:=Lib.hid h1;clear h1;go_wp2;go_ret;exact⟨A',k,rfl,H1.out⟩
theorem qz2 (h:SvAt w X S Y V) (hnm:V.nm.length≤1000):
  Calls Tryz.prog 68 #[.pointer (some ⟨Y.s,0,none⟩)] w (wz X Y w (St.sync S V)):=by
 obtain⟨R,hR⟩:∃R,R=St.sync S V:=⟨_,rfl⟩;have hR0:=hR;unfold St.sync at hR;rw[←hR0];clear hR0;have c10:=h.box.cell 10;have c2:=h.box.cell 2;simp only[Yw.cells,gE0,gE1]at c10 c2;have HH:=Lib.hid h
 cases ho:V.only with
 |true=>
  rw[if_pos ho]at hR;rw[ho]at c10;have HZ:Hid (wz X Y w R (.returned (.int .i64 14)) w):=Lib.hid (by rw[hR];exact⟨rfl,cw1.refl h⟩);clear hR ho h;go_enter Tryz.func68,Tryz.ntmps68;go_wp2;go_ret;exact HZ.out
 |false=>
 rw[if_neg (by simp[ho])]at hR;rw[ho]at c10;have hls:=uv2 X S Y.g V.nm V.sz V.ct w hnm h.dm h.log (h.apart.x _ (Yw.aj.2 (.inr (.inr (.inl rfl)))));obtain⟨r,hr⟩:∃r,r=S.sync V.nm:=⟨_,rfl⟩;rw[←hr]at hls hR;obtain⟨S1,er⟩:=r;simp only at hls hR;have HLS:=Lib.hid hls;have HR:=Lib.hid hR;clear hls hR hr h;go_enter Tryz.func68,Tryz.ntmps68;go_wp2_with fail;refine HLS.out.mono ?_;rintro e w1 ⟨rfl,hu⟩;obtain⟨X1,e1,hs1,hc1,hf1⟩:=HH.out.disk hu
 by_cases h0:er=0
 ·subst h0
  have HZ:Hid (wz X Y w R (.returned (.int .i64 0)) w1):=Lib.hid (by
   have:=HR.out;rw[if_pos rfl]at this;rw[this];exact⟨rfl,X1,Y,e1,rfl,hs1,hc1,hf1,.inl rfl⟩)
  clear hs1 hc1 hf1 hu e1;go_wp2;go_ret;exact HZ.out
 ·have e3:((er:Int)==0)=false:=by simp;omega
  have hcl:=gv2 hs1 er;have HCL:=Lib.hid hcl;have HU:=Lib.hid (And.intro e1 (And.intro hc1 hf1));clear hcl hs1 hc1 hf1 hu e1;go_wp2_with fail;refine HCL.out.mono ?_;rintro e w2 ⟨rfl,hs2,hc2⟩;have HZ:Hid (wz X Y w R (.returned (.int .i64 (er:Int))) w2):=Lib.hid (by
   have:=HR.out;rw[if_neg h0]at this;rw[this];exact⟨rfl,X1,Y,HU.out.1,rfl,hs2,HU.out.2.1.trans hc2 HU.out.2.2,HU.out.2.2,.inl rfl⟩)
  clear hs2 hc2;go_wp2;go_ret;exact HZ.out
end
section
open Go Go.RowKit Go.Lib Go.Shelf
variable {w w1 w2:World} {X X1 X2:Dw} {S S1 S2:Sd} {Y Y1 Y2:Yw} {V V1 V2:Sv}
def kw3 (X:Dw) (Y:Yw) (w w':World) (S':Sd) (V':Sv):Prop:=∃X' P',X'.d=X.d∧SvAt w' X' S' { Y with P:=P' } V'∧Chg (XY X Y) w w'∧(∀g∈XY X' Y,g∈XY X Y∨w.heap.size≤g)∧(P'=Y.P∨∀a,P'.a=some a→w.heap.size≤a.block)
theorem zy3 (h:SvAt w X S Y V) (x:Ed) (D:Option Addr) (dm dd:Nat) (A2:Option Addr) (n2 c2:Nat) (hdm:dm≤1000000) (hn2:n2≤1000000) (hrd:Row w.heap.size w D dm 1 (uz x.drop)) (hra:Row w.heap.size w A2 n2 2 (dw x.add)) (hvf:V.M.v.files.length≤40)
  (hc0:V.M.count≤1000000000) (hnl:V.M.name.length≤1000):
  Calls Tryz.prog 123 #[.pointer (some ⟨Y.s,0,none⟩),x.val D dm dd A2 n2 c2] w fun e w'=>e=.returned (.int .i64 ((St.saved S V x).2.2:Int))∧kw3 X Y w w' (St.saved S V x).1 (St.saved S V x).2.1:=by
 have hbA:=(Below.refl w.heap.size w).alloc (Nat.le_refl _) (.cells #[.slice D dm dd,.slice A2 n2 c2,.int .i64 x.log,.int .u64 (x.floor:Int),.int .u64 (x.cert:Int),.int .u64 (x.at_:Int),.int .u64 (x.lease:Int)] 194);have hbx:=BoxO.new w #[.slice D dm dd,.slice A2 n2 c2,.int .i64 x.log,.int .u64 (x.floor:Int),.int .u64 (x.cert:Int),.int .u64 (x.at_:Int),.int .u64 (x.lease:Int)] 194;have h1:=h.below (ak hbA);have hrd1:=(hrd.below (ak hbA)).up hbA.size;have hra1:=(hra.below (ak hbA)).up hbA.size;have hsz:∀g∈XY X Y,g < w.heap.size:=h.lt;obtain⟨W,hW⟩:∃W,W=w.alloc (.cells #[.slice D dm dd,.slice A2 n2 c2,.int .i64 x.log,.int .u64 (x.floor:Int),.int .u64 (x.cert:Int),.int .u64 (x.at_:Int),.int .u64 (x.lease:Int)] 194):=⟨_,rfl⟩;obtain⟨ge,hge⟩:∃ge,ge=w.heap.size:=⟨_,rfl⟩;rw[←hge]at hbx;rw[←hW]at hbA hbx h1 hrd1 hra1;have hsv:=zx3 x D dm dd A2 n2 c2 hdm hn2 hrd1 hra1 (by rw[h.plen];exact hvf) hc0 hnl h1.gst;obtain⟨R,hR⟩:∃R,R=Gw.save S V.M x:=⟨_,rfl⟩;have hT:St.saved S V x=(R.1,{ V with M:=R.2.1,only:=V.only||R.2.1.broken },R.2.2):=by rw[hR];rfl
 rw[←hR]at hsv;rw[hT];obtain⟨S1,M1,er⟩:=R;show Calls Tryz.prog 123 #[.pointer (some ⟨Y.s,0,none⟩),x.val D dm dd A2 n2 c2] w fun e w'=>e=.returned (.int .i64 (er:Int))∧kw3 X Y w w' S1 { V with M:=M1,only:=V.only||M1.broken }
 unfold fv1 at hsv;simp only at hsv;have hout:Y.s∉[Y.m] ++X.foot∧ge∉[Y.m] ++X.foot:=⟨fun hm=>by
  rcases List.mem_append.1 hm with q|q
  ·exact h.apart.s (by rw[List.mem_singleton.1 q];exact List.mem_cons_self)
  ·exact h.apart.x _ (Yw.aj.2 (.inl rfl)) q,fun hm=>by
  rcases List.mem_append.1 hm with q|q
  ·have:=hsz Y.m (List.mem_append_right _ (Yw.aj.2 (.inr (.inl rfl))))
   have:=List.mem_singleton.1 q;omega
  ·have:=hsz _ (List.mem_append_left _ q)
   omega⟩
 have HV:=Lib.hid hW;have HG:=Lib.hid hge;have HSV:=Lib.hid hsv;have HO:=Lib.hid hout;have H1:=Lib.hid h1;have HB:=Lib.hid (Chg.of_below (ak hbA) (XY X Y));have HS0:Hid (BoxO W.drew 153 Y.s (Y.cells X.d V)∧BoxO W.drew 194 ge #[.slice D dm dd,.slice A2 n2 c2,.int .i64 x.log,.int .u64 (x.floor:Int),.int .u64 (x.cert:Int),.int .u64 (x.at_:Int),.int .u64 (x.lease:Int)].toList):=Lib.hid ⟨h1.box,hbx⟩;clear hsv hW hge h h1 hrd hra hrd1 hra1 hbA hbx hout hsz hR hT;unfold Ed.val at *;go_enter Tryz.func123,Tryz.ntmps123;go_wp2_with fail;rw[←HV.out,←HG.out];refine wp_region_held_drew (S:=fun w'=>BoxO w' 153 Y.s (Y.cells X.d V)∧BoxO w' 194 ge #[.slice D dm dd,.slice A2 n2 c2,.int .i64 x.log,.int .u64 (x.floor:Int),.int .u64 (x.cert:Int),.int .u64 (x.at_:Int),.int .u64 (x.lease:Int)].toList) rfl HS0.out (fun hSw=>?_);refine wpT (i:=0) (v:=?vsv0) ?hsv0 hSw ?ksv0
 case hsv0=>(intro w hSw;(have k1:=hSw.1.cell 1;have e0:=hSw.2.cell 0;have e1:=hSw.2.cell 1;have e2:=hSw.2.cell 2;have e3:=hSw.2.cell 3;have e4:=hSw.2.cell 4;have e5:=hSw.2.cell 5;have e6:=hSw.2.cell 6;simp only[Yw.cells,gE0,gE1]at k1 e0 e1 e2 e3 e4 e5 e6);go_simp;try (with_reducible rfl))
 go_simp;refine wpT (i:=1) (v:=?vsv1) ?hsv1 hSw ?ksv1
 case hsv1=>(intro w hSw;(have k1:=hSw.1.cell 1;have e0:=hSw.2.cell 0;have e1:=hSw.2.cell 1;have e2:=hSw.2.cell 2;have e3:=hSw.2.cell 3;have e4:=hSw.2.cell 4;have e5:=hSw.2.cell 5;have e6:=hSw.2.cell 6;simp only[Yw.cells,gE0,gE1]at k1 e0 e1 e2 e3 e4 e5 e6);go_simp;try (with_reducible rfl))
 go_simp;refine wpT (i:=2) (v:=?vsv2) ?hsv2 hSw ?ksv2
 case hsv2=>(intro w hSw;(have k1:=hSw.1.cell 1;have e0:=hSw.2.cell 0;have e1:=hSw.2.cell 1;have e2:=hSw.2.cell 2;have e3:=hSw.2.cell 3;have e4:=hSw.2.cell 4;have e5:=hSw.2.cell 5;have e6:=hSw.2.cell 6;simp only[Yw.cells,gE0,gE1]at k1 e0 e1 e2 e3 e4 e5 e6);go_simp;try (with_reducible rfl))
 go_simp;refine wpT (i:=3) (v:=?vsv3) ?hsv3 hSw ?ksv3
 case hsv3=>(intro w hSw;(have k1:=hSw.1.cell 1;have e0:=hSw.2.cell 0;have e1:=hSw.2.cell 1;have e2:=hSw.2.cell 2;have e3:=hSw.2.cell 3;have e4:=hSw.2.cell 4;have e5:=hSw.2.cell 5;have e6:=hSw.2.cell 6;simp only[Yw.cells,gE0,gE1]at k1 e0 e1 e2 e3 e4 e5 e6);go_simp;try (with_reducible rfl))
 go_simp;refine wpT (i:=4) (v:=?vsv4) ?hsv4 hSw ?ksv4
 case hsv4=>(intro w hSw;(have k1:=hSw.1.cell 1;have e0:=hSw.2.cell 0;have e1:=hSw.2.cell 1;have e2:=hSw.2.cell 2;have e3:=hSw.2.cell 3;have e4:=hSw.2.cell 4;have e5:=hSw.2.cell 5;have e6:=hSw.2.cell 6;simp only[Yw.cells,gE0,gE1]at k1 e0 e1 e2 e3 e4 e5 e6);go_simp;try (with_reducible rfl))
 go_simp;refine wpAnyH_ready (rs:=[5]) (by kernel_rfl) (by simp) ?_;refine AllReadyH.cons rfl (fun K hK=>?_) AllReadyH.nil;go_simp
 with_reducible refine HSV.out.mono ?_
 rintro e w3 ⟨rfl,P3,X3,h3,hP3⟩;go_simp;refine hK.out _ _ ⟨hSw.1.chg h3.acc.c HO.out.1,hSw.2.chg h3.acc.c HO.out.2⟩ (fun hSn=>?_);clear hK K hSw;have hSw:=hSn;clear hSn;go_simp;refine wpT (i:=6) (v:=?vsv6) ?hsv6 hSw ?ksv6
 case hsv6=>(intro w hSw;(have k1:=hSw.1.cell 1;have e0:=hSw.2.cell 0;have e1:=hSw.2.cell 1;have e2:=hSw.2.cell 2;have e3:=hSw.2.cell 3;have e4:=hSw.2.cell 4;have e5:=hSw.2.cell 5;have e6:=hSw.2.cell 6;simp only[Yw.cells,gE0,gE1]at k1 e0 e1 e2 e3 e4 e5 e6);go_simp;try (with_reducible rfl))
 go_simp;refine wpAnyH_done (by kernel_rfl) ?_ _;obtain⟨hs,hc3,hf3⟩:=H1.out.cw5 h3 hP3;have c1:=hs.box.cell 1;simp only[Yw.cells,gE0,gE1]at c1;have hbk:=px2 X3.d hs.man;have hd3:=h3.acc.e;have hcw:=HB.out.trans hc3 (fun g hg=>.inl hg);have hfw:∀g∈XY X3 { Y with P:=P3 },g∈XY X Y∨w.heap.size≤g:=fun g hg=>(hf3 g hg).imp id (fun q=>Nat.le_trans HB.out.size q);have hPw:P3=Y.P∨∀a,P3.a=some a→w.heap.size≤a.block:=hP3.imp id (fun q a ha=>Nat.le_trans HB.out.size (q a ha));have HPW:=Lib.hid hPw
 cases hbr:M1.broken with
 |false=>
  rw[hbr]at hbk;have hfin:kw3 X Y w w3 S1 { V with M:=M1,only:=V.only||M1.broken }:=⟨X3,P3,hd3,by rw[hbr,Bool.or_false];exact hs,hcw,hfw,hPw⟩;have HF:=Lib.hid hfin;clear hbr;have HBK:=Lib.hid hbk;clear hbk hs hc3 hf3 hP3 hSw HS0 HSV H1 hfin hcw hfw hPw h3;go_wp2_with fail;refine HBK.out.mono ?_;rintro e w4 ⟨rfl,rfl⟩;go_wp2;go_ret;exact⟨rfl,HF.out⟩
 |true=>
  rw[hbr]at hbk;have hcl:=gv2 hs er;have HBK:=Lib.hid hbk;have HCL:=Lib.hid hcl;have HC3:=Lib.hid hcw;have HF3:=Lib.hid hfw;clear hbk hs hc3 hf3 hP3 hSw HS0 HSV H1 hcl hcw hfw hPw h3;go_wp2_with fail;refine HBK.out.mono ?_;rintro e w4 ⟨rfl,rfl⟩;go_wp2_with fail;refine HCL.out.mono ?_;rintro e w5 ⟨rfl,h5,hc5⟩;have hfin:kw3 X Y w w5 S1 { V with M:=M1,only:=V.only||M1.broken }:=⟨X3,P3,hd3,by rw[hbr,Bool.or_true];exact h5,HC3.out.trans hc5 HF3.out,HF3.out,HPW.out⟩;have HF:=Lib.hid hfin;clear hfin h5 hc5 HCL hbr;go_wp2;go_ret;exact⟨rfl,HF.out⟩
end
section
open Go Go.RowKit Go.Lib Go.Shelf
variable {w w1 w2:World} {X X1 X2:Dw} {S S1 S2:Sd} {Y Y1 Y2:Yw} {V V1 V2:Sv}
def St.may1 (a b:Nat):Prop:=a≤281474976710656∧(a=0→b=0)
def St.xy1 (m was:Mt):Prop:=St.may1 m.floor was.floor∧St.may1 m.cert was.cert∧St.may1 m.at_ was.at_∧St.may1 m.lease was.lease
def St.setMeta (S:Sd) (V:Sv) (m:Mt):Sd×Sv×Nat:=if V.only=true then (S,V,14) else St.saved S V ⟨[],[],0,m.floor,m.cert,m.at_,m.lease⟩
def pairs (m was:Mt):List Value:=[.int .u64 (m.floor:Int),.int .u64 (was.floor:Int),.int .u64 (m.cert:Int),.int .u64 (was.cert:Int),.int .u64 (m.at_:Int),.int .u64 (was.at_:Int),.int .u64 (m.lease:Int),.int .u64 (was.lease:Int)]
theorem xv4 {m was:Mt} (h:St.xy1 m was) {k:Nat} (hk:k < 4):∃a b:Nat,(pairs m was)[k *2]?=some (.int .u64 (a:Int))∧(pairs m was)[k *2+1]?=some (.int .u64 (b:Int))∧St.may1 a b:=by
 obtain⟨h0,h1,h2,h3⟩:=h
 match k,hk with
 |0,_=>exact⟨_,_,rfl,rfl,h0⟩
 |1,_=>exact⟨_,_,rfl,rfl,h1⟩
 |2,_=>exact⟨_,_,rfl,rfl,h2⟩
 |3,_=>exact⟨_,_,rfl,rfl,h3⟩
theorem kw3.up {w0:World} (hb:Below w0.heap.size w0 w) (h:kw3 X Y w w1 S1 V1):cw1 X Y w0 w1 S1 V1:=let ⟨X',P',a,b,c,d,_⟩:=h;⟨X',{ Y with P:=P' },a,rfl,b,(Chg.of_below hb _).trans c (fun g hg=>.inl hg),fun g hg=>(d g hg).imp (fun z=>z) (Nat.le_trans hb.size),.inl rfl⟩
theorem uj2 (h:SvAt w X S Y V) (m:Mt) (hm:St.xy1 m (St.yx V)) (hvf:V.M.v.files.length≤40) (hc0:V.M.count≤1000000000) (hnl:V.M.name.length≤1000):
  Calls Tryz.prog 57 #[.pointer (some ⟨Y.s,0,none⟩),m.val] w (wz X Y w (St.setMeta S V m)):=by
 obtain⟨R,hR⟩:∃R,R=St.setMeta S V m:=⟨_,rfl⟩;have hR0:=hR;unfold St.setMeta at hR;rw[←hR0];clear hR0;have hb1:=(Below.refl w.heap.size w).alloc (Nat.le_refl _) (.cells #[.int .u64 (m.floor:Int),.int .u64 (m.cert:Int),.int .u64 (m.at_:Int),.int .u64 (m.lease:Int)] 47);have hbx:=BoxO.new w #[.int .u64 (m.floor:Int),.int .u64 (m.cert:Int),.int .u64 (m.at_:Int),.int .u64 (m.lease:Int)] 47;have h1:=h.below hb1;have c10:=h1.box.cell 10;simp only[Yw.cells,gE0,gE1]at c10;have hme:=dz1 h1 (by omega);obtain⟨b,hb⟩:∃b,b=St.yx V:=⟨_,rfl⟩;rw[←hb]at hme hm;unfold Mt.val at hme ⊢;have HH:=Lib.hid h;have HB:=Lib.hid (And.intro hb1 hbx);have HME:=Lib.hid hme;have HM:=Lib.hid hm
 cases ho:V.only with
 |true=>
  rw[if_pos ho]at hR;rw[ho]at c10;have HZ:Hid (∀w',Below w.heap.size w w'→wz X Y w R (.returned (.int .i64 14)) w'):=Lib.hid (fun w' hq=>by rw[hR];exact⟨rfl,cw1.same h hq⟩);have HY:=Lib.hid (HZ.out _ hb1);clear hR ho h h1 hme hm hb HZ hb1 hbx;go_enter Tryz.func57,Tryz.ntmps57;go_wp2;go_ret;exact HY.out
 |false=>
 rw[if_neg (by simp[ho])]at hR;rw[ho]at c10;have HR:=Lib.hid hR;clear hR ho h h1 hme hm hb hb1 hbx;go_enter Tryz.func57,Tryz.ntmps57;go_wp2_with fail;refine HME.out.mono ?_;rintro e w2 ⟨rfl,hb2⟩;have hx2:=HB.out.2.below hb2;have hbz:=az HB.out.1 hb2;have hb3:=(Below.refl w2.heap.size w2).alloc (Nat.le_refl _) (.cells #[.int .u64 (b.floor:Int),.int .u64 (b.cert:Int),.int .u64 (b.at_:Int),.int .u64 (b.lease:Int)] 47);have hx3:=hx2.below hb3;have hbq:=az hbz hb3;have s0:=hx3.cell 0;have s1:=hx3.cell 1;have s2:=hx3.cell 2;have s3:=hx3.cell 3;simp only[gE0,gE1]at s0 s1 s2 s3;have hP:=BoxO.new (w2.alloc (.cells #[.int .u64 (b.floor:Int),.int .u64 (b.cert:Int),.int .u64 (b.at_:Int),.int .u64 (b.lease:Int)] 47)) (pairs m b).toArray 190;have hx4:=hx3.alloc (.cells (pairs m b).toArray 190);have hb4:=az hbq ((Below.refl _ _).alloc (Nat.le_refl _) (.cells (pairs m b).toArray 190));rw[World.size_alloc]at hP;unfold pairs at hP hx4 hb4;obtain⟨W,hW⟩:∃W,W=(w2.alloc (.cells #[.int .u64 (b.floor:Int),.int .u64 (b.cert:Int),.int .u64 (b.at_:Int),.int .u64 (b.lease:Int)] 47)).alloc (.cells [.int .u64 (m.floor:Int),.int .u64 (b.floor:Int),.int .u64 (m.cert:Int),.int .u64 (b.cert:Int),.int .u64 (m.at_:Int),.int .u64 (b.at_:Int),.int .u64 (m.lease:Int),.int .u64 (b.lease:Int)].toArray 190):=⟨_,rfl⟩;rw[←hW]at hP hx4 hb4;have HP:Hid (BoxO W 190 (w2.heap.size+1) (pairs m b)):=Lib.hid hP;have HX4:=Lib.hid hx4;have HB4:=Lib.hid hb4;have HW:=Lib.hid hW;clear HME hP hx4 hb4 hW hx2 hb2 hbz hb3 hx3 hbq;go_wp2_with fail;simp only[List.toArray]at HW;rw[←HW.out];generalize w2.heap.size+1=gp at *;generalize w.heap.size=gm at HX4;clear s0 s1 s2 s3
 go_loopw [36] (fun i wr=>∃k:Nat,k≤4∧i=.int .i64 (k:Int)∧Below W.heap.size W wr) (fun i _=>4 - (intOf i).toNat)
 case atStart=>exact⟨0,Nat.zero_le _,rfl,Below.refl _ _⟩
 case round=>
  obtain⟨k,hk,rfl,hbl⟩:=hrel
  by_cases hlt:k < 4
  ·obtain⟨x,y,hx,hy,hxm,hxy⟩:=xv4 HM.out hlt
   have q0:=(HP.out.below hbl).cell (k *2);have q1:=(HP.out.below hbl).cell (k *2+1);rw[hx]at q0;rw[hy]at q1;have hkn:(k:Int) < 4:=by omega
   have hwk:IntKind.i64.wrap (k:Int)=(k:Int):=IntWalk.i64_in _ (by omega);have e1:((281474976710656:Int) < (x:Int))=False:=eq_false (by omega);have hbz:=hbl.alloc hbl.size (.cells #[.int .u64 (x:Int),.int .u64 (y:Int)] 190)
   by_cases hx0:x=0
   ·obtain rfl:=hxy hx0
    subst hx0;clear hx hy hxm hxy;go_wp2;go_roundw
    case rel=>exact⟨k+1,by omega,by go_num,hbz⟩
    case measure=>simp[intOf];omega
   ·have e2:((x:Int)==0)=false:=by simp;omega
    clear hx hy hxm hxy;go_wp2;go_roundw
    case rel=>exact⟨k+1,by omega,by go_num,hbz⟩
    case measure=>simp[intOf];omega
  ·have hkn:((k:Int) < 4)=False:=eq_false (by omega)
   have hb5:=HB4.out.trans (hbl.mono HB4.out.size);have h5:=HH.out.below hb5;have hx5:=HX4.out.below hbl;have s0:=hx5.cell 0;have s1:=hx5.cell 1;have s2:=hx5.cell 2;have s3:=hx5.cell 3;simp only[gE0,gE1]at s0 s1 s2 s3;have hsv:=zy3 h5 ⟨[],[],0,m.floor,m.cert,m.at_,m.lease⟩ none 0 0 none 0 0 (by omega) (by omega) Row.nil_ Row.nil_ hvf hc0 hnl;unfold Ed.val at hsv;have HSV:=Lib.hid hsv;have HB5:=Lib.hid hb5;clear hsv h5 hb5 hx5;go_wp2_with fail;refine HSV.out.mono ?_;rintro e w6 ⟨rfl,hg⟩;have HZ:Hid (wz X Y w R (.returned (.int .i64 ((St.saved S V ⟨[],[],0,m.floor,m.cert,m.at_,m.lease⟩).2.2:Int))) w6):=Lib.hid (by
    rw[HR.out];exact⟨rfl,hg.up HB5.out⟩)
   clear hg HSV s0 s1 s2 s3;go_wp2;go_ret;exact HZ.out
end
section
open Go Go.RowKit Go.Lib Go.Shelf
variable {w w1 w2:World} {X X1 X2:Dw} {S S1 S2:Sd} {Y Y1 Y2:Yw} {V V1 V2:Sv} {G F:List Nat}
def mj3 (w:World) (G:List Nat):Prop:=∀a:Addr,a.block∈G→∀v,w.cell? a=some v→∃b,v=.bool b
def sy3 (xs:List Value):Prop:=∀v∈xs,∀b,v≠.bool b
theorem jj3 (l:List It):sy3 (itc l):=by
 intro v hv b e;subst e;unfold itc at hv;rw[List.mem_flatMap]at hv;obtain⟨x,_,h⟩:=hv;simp[It.cells]at h
theorem mz2 (l:List (Int×Int)):sy3 (dw l):=by
 intro v hv b e;subst e;unfold dw at hv;rw[List.mem_flatMap]at hv;obtain⟨x,_,h⟩:=hv;simp at h
theorem ik3 {B n size:Nat} {A:Option Addr} {xs:List Value} (h:Row B w A n size xs) (hx:sy3 xs) (hn:mj3 w G) (c:Chg G w w1) (hB:B≤w.heap.size):Row B w1 A n size xs:=
 yj c h hB fun j hj a ha hm=>by
  obtain⟨a',e,_,hc⟩:=h.cell j hj;rw[ha]at e;injection e with e;subst e;obtain⟨b,hb⟩:=hn _ (by rw[add_block];exact hm) _ hc;exact hx _ (List.getElem_mem hj) b hb
def back (w w1:World) (G:List Nat):World:={ w1 with heap:=w1.heap.mapIdx fun i o=>if i∈G then (w.heap[i]?).getD o else o }
theorem vz4 {k:Nat} (hk:k∈G) (hw:k < w.heap.size) (h1:k < w1.heap.size):(back w w1 G).heap[k]?=w.heap[k]?:=by
 unfold back;simp only[Array.getElem?_mapIdx,Array.getElem?_eq_getElem h1,Option.map_some,if_pos hk,Array.getElem?_eq_getElem hw,Option.getD_some]
theorem ek3 {k:Nat} (hk:k∉G):(back w w1 G).heap[k]?=w1.heap[k]?:=by
 unfold back;simp only[Array.getElem?_mapIdx,if_neg hk]
 cases w1.heap[k]?<;>rfl
theorem nw1:(back w w1 G).heap.size=w1.heap.size:=by simp[back]
theorem gv1.tick {A:Option Addr} {n c:Nat} {l:List It} (h:gv1 F w fun w=>Its 0 w A n c l) (hn:mj3 w G) (k:Chg G w w1) (hG:∀g∈G,g < w.heap.size):gv1 F w1 fun w=>Its 0 w A n c l:=fun w2 k2=>by
 have hsz:=Nat.le_trans k.size k2.size;have hb:∀g∈G,(back w w2 G).heap[g]?=w.heap[g]?:=fun g hg=>vz4 hg (hG g hg) (Nat.lt_of_lt_of_le (hG g hg) hsz);have h1:=h (back w w2 G) ⟨k2.os.trans k.os,k2.tape.trans k.tape,k2.output.trans k.output,by rw[nw1];exact hsz,fun g hg hF=>by
  by_cases hm:g∈G
  ·exact hb g hm
  ·rw[ek3 hm,k2.block g (Nat.lt_of_lt_of_le hg k.size) hF,k.block g hg hm]⟩
 refine⟨?_,h1.nc,h1.cm,h1.low⟩;have hr:=h1.row;rw[nw1]at hr;exact ik3 hr (jj3 l) (fun a ha v hv=>hn a ha v (by rw[←hv];exact(World.cell?_of_block (hb _ ha)).symm)) (w1:=w2) (G:=G) ⟨rfl,rfl,rfl,by rw[nw1];exact Nat.le_refl _,fun g _ hm=>(ek3 hm).symm⟩ (by rw[nw1];exact Nat.le_refl _)
theorem vx2.none {T:Sl} {q:List Tq} (h:vx2 w T q []) (w1:World):vx2 w1 T q []:=by
 obtain⟨h1,h2,h3,h4,h5,h6⟩:=h;have hq:q=[]:=List.map_eq_nil_iff.1 h1;subst hq;exact⟨rfl,⟨h2.len,fun j hj=>absurd hj (by simp[hcells])⟩,h3,h4,h5,fun p hp=>by cases hp⟩
theorem SvAt.tick (h:SvAt w X S Y V) (ht:V.tabs=[]) (hn:mj3 w G) (c:Chg G w w1) (hG:∀g∈G,g∉XY X Y∧NG≤g∧g < w.heap.size):SvAt w1 X S Y V:=by
 have hf:∀g∈Y.foot,g∉G:=fun g h1 h2=>(hG g h2).1 (List.mem_append_right _ h1);refine⟨h.dm.chg c (fun g hg=>⟨fun hm=>(hG g hg).1 (List.mem_append_left _ hm),(hG g hg).2.1⟩),h.box.chg c (hf _ (Yw.aj.2 (.inl rfl))),h.man.chg c (hf _ (Yw.aj.2 (.inr (.inl rfl)))),?_,h.pout,h.log.chg c (hf _ (Yw.aj.2 (.inr (.inr (.inl rfl))))),h.mem.chg c (fun g hg=>hf g (Yw.aj.2 ?_)),h.its,?_,h.st.tick hn c (fun g hg=>(hG g hg).2.2),h.apart,h.ng⟩
 ·exact⟨(ik3 h.row.row (mz2 _) hn c (Nat.le_refl _)).up c.size,h.row.nc,h.row.cm,h.row.nb,h.row.away⟩
 ·rcases List.mem_cons.1 hg with rfl|hg
  ·exact .inr (.inr (.inr (.inl rfl)))
  ·exact .inr (.inr (.inr (.inr hg)))
 ·have:=h.tabs.now
  rw[ht]at this ⊢;exact fun w2 _=>this.none w2
structure NdAt (w:World) (X:Dw) (S:Sd) (Y:Yw) (V:Sv) (nb:Nat) (id:Int) (now grace:Nat):Prop where
 at_:SvAt w X S Y V
 box:BoxO w 101 nb [.int .i64 id,.pointer (some ⟨Y.s,0,none⟩),.int .u64 (now:Int),.int .u64 (grace:Int)]
 out:nb∉XY X Y
section
variable {nb now grace:Nat} {id:Int}
theorem NdAt.below (h:NdAt w X S Y V nb id now grace) (hb:Below w.heap.size w w1):NdAt w1 X S Y V nb id now grace:=⟨h.at_.below hb,h.box.below hb,h.out⟩
theorem NdAt.tick (h:NdAt w X S Y V nb id now grace) (ht:V.tabs=[]) (hn:mj3 w G) (c:Chg G w w1) (hG:∀g∈G,g∉XY X Y∧NG≤g∧g < w.heap.size∧g≠nb):NdAt w1 X S Y V nb id now grace:=
 ⟨h.at_.tick ht hn c (fun g hg=>⟨(hG g hg).1,(hG g hg).2.1,(hG g hg).2.2.1⟩),h.box.chg c (fun hm=>(hG nb hm).2.2.2 rfl),h.out⟩
def bv1 (X:Dw) (Y:Yw) (w w1:World) (S1:Sd) (V1:Sv) (nb:Nat) (id:Int) (now grace:Nat):Prop:=∃X1 Y1,X1.d=X.d∧Y1.s=Y.s∧NdAt w1 X1 S1 Y1 V1 nb id now grace∧Chg (XY X Y) w w1∧(∀g∈XY X1 Y1,g∈XY X Y∨w.heap.size≤g)∧NewA w Y Y1
theorem NdAt.upd (h:NdAt w X S Y V nb id now grace) (hu:cw1 X Y w w1 S1 V1):bv1 X Y w w1 S1 V1 nb id now grace:=by
 obtain⟨X1,Y1,e,es,h1,c,f,na⟩:=hu;refine⟨X1,Y1,e,es,⟨h1,by rw[es];exact h.box.chg c h.out,fun hm=>?_⟩,c,f,na⟩
 rcases f nb hm with q|q
 ·exact h.out q
 ·have:=h.box.lt
  omega
theorem bv1.same (h:NdAt w X S Y V nb id now grace) (hb:Below w.heap.size w w1):bv1 X Y w w1 S V nb id now grace:=⟨X,Y,rfl,rfl,h.below hb,Chg.of_below hb _,fun _ hg=>.inl hg,.inl rfl⟩
theorem bv1.trans (e1:X1.d=X.d) (e2:Y1.s=Y.s) (c:Chg (XY X Y) w w1) (hf:∀g∈XY X1 Y1,g∈XY X Y∨w.heap.size≤g) (hn:NewA w Y Y1) (k:bv1 X1 Y1 w1 w2 S2 V2 nb id now grace):bv1 X Y w w2 S2 V2 nb id now grace:=by
 obtain⟨X2,Y2,e3,e4,h,c2,hf2,n2⟩:=k;refine⟨X2,Y2,e3.trans e1,e4.trans e2,h,c.trans c2 hf,fun g hg=>?_,hn.trans n2 c.size⟩
 rcases hf2 g hg with h1|h1
 ·exact hf g h1
 ·exact .inr (Nat.le_trans c.size h1)
theorem bv1.low {B:Nat} (k:bv1 X Y w1 w2 S2 V2 nb id now grace) (hb:Below w.heap.size w w1):bv1 X Y w w2 S2 V2 nb id now grace:=k.trans rfl rfl (Chg.of_below hb _) (fun _ hg=>.inl hg) (.inl rfl)
end
structure Nrm (V:Sv):Prop where
 tabs:V.tabs=[]
 st:Stt V.st
 len:V.st.length≤1500
 sz:V.sz≤1000000000
 ct:V.ct≤1000000
 mem:V.mem.length≤100000
 nm:V.nm.length≤1000
 files:V.M.v.files.length≤40
 count:V.M.count≤1000000
 name:V.M.name.length≤1000
end
section
open Go Go.RowKit Go.Lib
def upto (l:List It) (v:Nat):List It:=l.filter fun a=>decide (a.v≤v)
theorem xw3 (a:It) (v b:Nat) (w:World) (hc:w.cell? ⟨b,0,none⟩=some (.int .u64 (v:Int))):
  Calls Tryz.prog 125 (#[a.val] ++#[.pointer (some ⟨b,0,none⟩)]) w fun e w'=>e=.returned (.bool (decide (a.v≤v)))∧Below w.heap.size w w':=by
 have hb0:=(Below.refl w.heap.size w).alloc (Nat.le_refl _) (.cells #[.int .i64 a.s,.int .i64 a.k,.int .u64 (a.t:Int),.int .u64 (a.v:Int),.int .i64 a.x] 36);have hc1:∀o,(w.alloc o).cell? ⟨b,0,none⟩=some (.int .u64 (v:Int)):=fun o=>(World.cell?_alloc_lt w o _ (World.block_lt_of_cell? w _ hc)).trans hc;unfold It.val;go_enter Tryz.func125,Tryz.ntmps125;go_wp2;go_ret;exact⟨rfl,hb0⟩
theorem bq2 (A:Option Addr) (n c:Nat) (l:List It) (v:Nat) (w:World) (hn:n≤1000000) (hr:Row w.heap.size w A n 5 (itc l)):
  Calls Tryz.prog 58 #[.slice A n c,.int .u64 (v:Int)] w (ew1 w (upto l v)):=by
 have hbV:=(Below.refl w.heap.size w).alloc (Nat.le_refl _) (.cells #[.int .u64 (v:Int)] 22);have hbx:=BoxO.new w #[.int .u64 (v:Int)] 22;have ho:=dj3 125 (fun _ _=>rfl) #[.pointer (some ⟨w.heap.size,0,none⟩)] (fun a=>decide (a.v≤v)) A n c l (w.alloc (.cells #[.int .u64 (v:Int)] 22)) hn ((hr.below hbV).up hbV.size)
  (fun x w1 hw=>xw3 x v w.heap.size w1 (by rw[(hbx.below hw).cell];rfl))
 have HO:=Lib.hid ho;unfold upto;clear ho hr hbx;go_enter Tryz.func58,Tryz.ntmps58;go_wp2_with fail;refine HO.out.mono ?_;rintro e w1 ⟨A1,k,rfl,h1,h2,h3⟩;have H:=Lib.hid (show ew1 w (l.filter fun a=>decide (a.v≤v)) (.returned (.slice A1 k k)) w1 from ⟨A1,k,rfl,h1,⟨h2.row,h2.nc,h2.cm,fun p hp=>Nat.le_trans hbV.size (h2.low p hp)⟩,az hbV h3⟩);clear h1 h2 h3 HO hbV;go_wp2;go_ret;exact H.out
theorem nk3 (A:Option Addr) (n c:Nat) (a:List It) (B:Option Addr) (m d:Nat) (b:List It) (w:World) (hn:n≤1000000) (hm:m≤1000000) (ra:Row w.heap.size w A n 5 (itc a)) (rb:Row w.heap.size w B m 5 (itc b)):
  Calls Tryz.prog 204 #[.slice A n c,.slice B m d] w fun e w'=>e=.returned (.bool (decide (a=b)))∧Below w.heap.size w w':=by
 have hna:=ra.bj1;have hmb:=rb.bj1;obtain⟨r,hr⟩:∃r,r=decide (a=b):=⟨_,rfl⟩;rw[←hr]
 by_cases hnm:n=m
 ·subst hnm
  have HR:=Lib.hid hr;clear hr;go_enter Tryz.func204,Tryz.ntmps204;go_wp2
  go_loopw [13] (fun i wr=>∃k:Nat,k≤n∧i=.int .i64 (k:Int)∧Hid (a.take k=b.take k)∧Below w.heap.size w wr) (fun i _=>n - (intOf i).toNat)
  case atStart=>exact⟨0,Nat.zero_le _,rfl,Lib.hid rfl,Below.refl _ _⟩
  case round=>
   obtain⟨k,hk,rfl,HE,hbl⟩:=hrel
   by_cases hlt:k < n
   ·obtain⟨p,hl,rfl,hbk,hd⟩:=(ra.below hbl).it hlt
    obtain⟨p2,hl2,rfl,hbk2,hd2⟩:=(rb.below hbl).it hlt;have hte:a.take (k+1)=a.take k++[a[k]]:=List.take_succ_eq_append_getElem hl;have htf:b.take (k+1)=b.take k++[b[k]]:=List.take_succ_eq_append_getElem hl2;have hne:a[k]≠b[k]→a≠b:=fun h e=>by subst e;exact h rfl
    generalize a[k]=x at *;generalize b[k]=y at *;have hnq:=pv4 x y;have hkc:∀w',Below wr.heap.size wr w'→(w'.cell? (p.add (k *5))=some (.int .i64 x.s)∧w'.cell? ⟨(p.add (k *5)).block,(p.add (k *5)).off+1,none⟩=some (.int .i64 x.k)∧w'.cell? ⟨(p.add (k *5)).block,(p.add (k *5)).off+2,none⟩=some (.int .u64 (x.t:Int))∧w'.cell? ⟨(p.add (k *5)).block,(p.add (k *5)).off+3,none⟩=some (.int .u64 (x.v:Int))∧w'.cell? ⟨(p.add (k *5)).block,(p.add (k *5)).off+4,none⟩=some (.int .i64 x.x))∧w'.cell? (p2.add (k *5))=some (.int .i64 y.s)∧w'.cell? ⟨(p2.add (k *5)).block,(p2.add (k *5)).off+1,none⟩=some (.int .i64 y.k)∧w'.cell? ⟨(p2.add (k *5)).block,(p2.add (k *5)).off+2,none⟩=some (.int .u64 (y.t:Int))∧w'.cell? ⟨(p2.add (k *5)).block,(p2.add (k *5)).off+3,none⟩=some (.int .u64 (y.v:Int))∧w'.cell? ⟨(p2.add (k *5)).block,(p2.add (k *5)).off+4,none⟩=some (.int .i64 y.x):=fun w' hb=>by
     have h1:=hd.below (B:=wr.heap.size) (w':=w') (Nat.lt_of_lt_of_le hbk hbl.size) hb;have h2:=hd2.below (B:=wr.heap.size) (w':=w') (Nat.lt_of_lt_of_le hbk2 hbl.size) hb;exact⟨⟨h1.c0,h1.c1,h1.c2,h1.c3,h1.c4⟩,h2.c0,h2.c1,h2.c2,h2.c3,h2.c4⟩
    have KC:=Lib.hid hkc;have HNE:=Lib.hid hne;have HT:=Lib.hid (And.intro hte htf);have hwk:IntKind.i64.wrap (k:Int)=(k:Int):=IntWalk.i64_in _ (by omega);have hkn:(k:Int) < (n:Int):=by omega
    clear hkc hne hte htf hd hd2 hnq
    by_cases hxy:x=y
    ·have H1:=Lib.hid (show a.take (k+1)=b.take (k+1) by rw[HT.out.1,HT.out.2,HE.out,hxy])
     subst hxy;go_wp2_with fail;refine wp_region_held_drew (S:=fun w'=>Below wr.heap.size wr w') rfl (ak (Below.refl _ _)) (fun hSw=>?_);refine wpT (i:=0) (v:=?vea0) ?hea0 hSw ?kea0
     case hea0=>(intro w hSw;(obtain⟨⟨c0,c1,c2,c3,c4⟩,d0,d1,d2,d3,d4⟩:=KC.out w hSw);go_simp;try (with_reducible rfl))
     go_simp;refine wpT (i:=1) (v:=?vea1) ?hea1 hSw ?kea1
     case hea1=>(intro w hSw;(obtain⟨⟨c0,c1,c2,c3,c4⟩,d0,d1,d2,d3,d4⟩:=KC.out w hSw);go_simp;try (with_reducible rfl))
     go_simp;refine wpT (i:=2) (v:=?vea2) ?hea2 hSw ?kea2
     case hea2=>(intro w hSw;(obtain⟨⟨c0,c1,c2,c3,c4⟩,d0,d1,d2,d3,d4⟩:=KC.out w hSw);go_simp;try (with_reducible rfl))
     go_simp;refine wpT (i:=3) (v:=?vea3) ?hea3 hSw ?kea3
     case hea3=>(intro w hSw;(obtain⟨⟨c0,c1,c2,c3,c4⟩,d0,d1,d2,d3,d4⟩:=KC.out w hSw);go_simp;try (with_reducible rfl))
     go_simp;refine wpT (i:=4) (v:=?vea4) ?hea4 hSw ?kea4
     case hea4=>(intro w hSw;(obtain⟨⟨c0,c1,c2,c3,c4⟩,d0,d1,d2,d3,d4⟩:=KC.out w hSw);go_simp;try (with_reducible rfl))
     go_simp;refine wpT (i:=5) (v:=?vea5) ?hea5 hSw ?kea5
     case hea5=>(intro w hSw;(obtain⟨⟨c0,c1,c2,c3,c4⟩,d0,d1,d2,d3,d4⟩:=KC.out w hSw);go_simp;try (with_reducible rfl))
     go_simp;refine wpT (i:=6) (v:=?vea6) ?hea6 hSw ?kea6
     case hea6=>(intro w hSw;(obtain⟨⟨c0,c1,c2,c3,c4⟩,d0,d1,d2,d3,d4⟩:=KC.out w hSw);go_simp;try (with_reducible rfl))
     go_simp;refine wpT (i:=7) (v:=?vea7) ?hea7 hSw ?kea7
     case hea7=>(intro w hSw;(obtain⟨⟨c0,c1,c2,c3,c4⟩,d0,d1,d2,d3,d4⟩:=KC.out w hSw);go_simp;try (with_reducible rfl))
     go_simp;refine wpT (i:=8) (v:=?vea8) ?hea8 hSw ?kea8
     case hea8=>(intro w hSw;(obtain⟨⟨c0,c1,c2,c3,c4⟩,d0,d1,d2,d3,d4⟩:=KC.out w hSw);go_simp;try (with_reducible rfl))
     go_simp;refine wpAnyH_done (by kernel_rfl) ?_ _;have hby:=hbl.trans (hSw.mono hbl.size);clear hSw KC;go_wp2;go_roundw
     case rel=>exact⟨k+1,by omega,by go_num,H1.out,hby⟩
     case measure=>simp[intOf];omega
    ·have hrf:r=false:=by
      rw[HR.out];simpa using HNE.out hxy
     have H1:=Lib.hid hrf;have HIF:=Lib.hid (fun(α:Type) (A B:α)=>zx4 hxy A B);clear hrf hxy;go_wp2_with fail;refine wp_region_held_drew (S:=fun w'=>Below wr.heap.size wr w') rfl (ak (Below.refl _ _)) (fun hSw=>?_);refine wpT (i:=0) (v:=?veb0) ?heb0 hSw ?keb0
     case heb0=>(intro w hSw;(obtain⟨⟨c0,c1,c2,c3,c4⟩,d0,d1,d2,d3,d4⟩:=KC.out w hSw;have hif:=HIF.out);go_simp;try (with_reducible rfl))
     go_simp;refine wpT (i:=1) (v:=?veb1) ?heb1 hSw ?keb1
     case heb1=>(intro w hSw;(obtain⟨⟨c0,c1,c2,c3,c4⟩,d0,d1,d2,d3,d4⟩:=KC.out w hSw;have hif:=HIF.out);go_simp;try (with_reducible rfl))
     go_simp;refine wpT (i:=2) (v:=?veb2) ?heb2 hSw ?keb2
     case heb2=>(intro w hSw;(obtain⟨⟨c0,c1,c2,c3,c4⟩,d0,d1,d2,d3,d4⟩:=KC.out w hSw;have hif:=HIF.out);go_simp;try (with_reducible rfl))
     go_simp;refine wpT (i:=3) (v:=?veb3) ?heb3 hSw ?keb3
     case heb3=>(intro w hSw;(obtain⟨⟨c0,c1,c2,c3,c4⟩,d0,d1,d2,d3,d4⟩:=KC.out w hSw;have hif:=HIF.out);go_simp;try (with_reducible rfl))
     go_simp;refine wpT (i:=4) (v:=?veb4) ?heb4 hSw ?keb4
     case heb4=>(intro w hSw;(obtain⟨⟨c0,c1,c2,c3,c4⟩,d0,d1,d2,d3,d4⟩:=KC.out w hSw;have hif:=HIF.out);go_simp;try (with_reducible rfl))
     go_simp;refine wpT (i:=5) (v:=?veb5) ?heb5 hSw ?keb5
     case heb5=>(intro w hSw;(obtain⟨⟨c0,c1,c2,c3,c4⟩,d0,d1,d2,d3,d4⟩:=KC.out w hSw;have hif:=HIF.out);go_simp;try (with_reducible rfl))
     go_simp;refine wpT (i:=6) (v:=?veb6) ?heb6 hSw ?keb6
     case heb6=>(intro w hSw;(obtain⟨⟨c0,c1,c2,c3,c4⟩,d0,d1,d2,d3,d4⟩:=KC.out w hSw;have hif:=HIF.out);go_simp;try (with_reducible rfl))
     go_simp;refine wpT (i:=7) (v:=?veb7) ?heb7 hSw ?keb7
     case heb7=>(intro w hSw;(obtain⟨⟨c0,c1,c2,c3,c4⟩,d0,d1,d2,d3,d4⟩:=KC.out w hSw;have hif:=HIF.out);go_simp;try (with_reducible rfl))
     go_simp;refine wpT (i:=8) (v:=?veb8) ?heb8 hSw ?keb8
     case heb8=>(intro w hSw;(obtain⟨⟨c0,c1,c2,c3,c4⟩,d0,d1,d2,d3,d4⟩:=KC.out w hSw;have hif:=HIF.out);go_simp;try (with_reducible rfl))
     go_simp;refine wpAnyH_done (by kernel_rfl) ?_ _;have hby:=hbl.trans (hSw.mono hbl.size);clear hSw KC;go_wp2;go_ret;exact⟨iq H1.out.symm,hby⟩
   ·have hall:r=true:=by
     have:=HE.out;rw[List.take_of_length_le (by omega),List.take_of_length_le (by omega)]at this;rw[HR.out,this];simp
    have H1:=Lib.hid hall;clear hall;go_wp2;go_ret;exact⟨iq H1.out.symm,hbl⟩
 ·have hne:r=false:=by
   rw[hr];have:a≠b:=fun e=>hnm (by rw[←hna,←hmb,e]);simpa using this
  have e1:((n:Int)==(m:Int))=false:=by rw[beq_eq_false_iff_ne];omega
  have H1:=Lib.hid hne;clear hne hr;go_enter Tryz.func204,Tryz.ntmps204;go_wp2;go_ret;exact⟨iq H1.out.symm,Below.refl _ _⟩
theorem pq2 (A:Option Addr) (n c:Nat) (a:List It) (B:Option Addr) (m d:Nat) (b:List It) (w:World) (hn:n≤1000000) (hm:m≤1000000) (ra:Row w.heap.size w A n 5 (itc a)) (rb:Row w.heap.size w B m 5 (itc b)):
  Calls Tryz.prog 120 #[.slice A n c,.slice B m d] w fun e w'=>e=.returned (.bool (decide (a=b)))∧Below w.heap.size w w':=by
 have HE:=Lib.hid (nk3 A n c a B m d b w hn hm ra rb);clear ra rb;go_enter Tryz.func120,Tryz.ntmps120;go_wp2_with fail;refine HE.out.mono ?_;rintro e w1 ⟨rfl,h1⟩;go_wp2;go_ret;exact⟨rfl,h1⟩
end
section
open Go Go.RowKit Go.Lib Go.Shelf
attribute [local go_sem] Oper.semAt_some
section
variable {F:Fence} {n:Nat} {P:Program}
def qy4 {α:Type} (F:Fence) (n:Nat) (P:Program) (gf:Nat) (lb:Array Value) (encs:α→Array Value) (Kp:World→World→Prop) (S Sp:List α→Prop) (N:Nat) (w0:World):Prop:=
 ∀(l:Nat) (J Jx:List α→World→Prop) (W:World),Below w0.heap.size w0 W→(∀pre W,J pre W→J pre W.drew)→
  (∀pre x W,J pre W→pre.length < N→YieldAt F (n - 1) P l (encs x) W fun e W'=>(e=.returned (.bool true)∧J (pre++[x]) W'∧Kp W W')∨(e=.returned (.bool false)∧Jx (pre++[x]) W'))→J [] W→
  CallsIn F n P gf (#[.func (.yield l) #[] #[]] ++lb) W fun e W'=>(∃v,e=.returned v)∧((∃ys,S ys∧J ys W')∨(∃pre,Sp pre∧Jx pre W'))
theorem mv1 {B l:Nat} {W:World} (hl:l=B∨l=B+1) (o:Obj):Chg [B,B+1] W (W.putObj l o):=⟨rfl,rfl,rfl,by simp,fun g _ hg=>World.putObj_heap_other (fun e=>hg (by subst e;rcases hl with rfl|rfl<;>simp))⟩
def mj1 (B:Nat) (W:World):Prop:=W.heap[B]?=some (.deferred (some []))∧∃r,W.heap[B+1]?=some (.loop r)
theorem nx1 {α:Type} {g:Operand} {ps:Array Tmp} {assign body:Code} {Q:Exit→Act→World→Prop} {a:Act} {w:World}
  (hro:F.round=none) (h1:1≤n) {gf:Nat} {lb:Array Value} (hg:a.eval g=.func (.func gf) #[] lb) (hFg:F.fn gf) (eg:∀args w,(callFunc gf args).run P w=.ok (.enter gf args) w)
  {encs:α→Array Value} {Kp:World→World→Prop} {S Sp:List α→Prop} {N:Nat} {w0:World} (hseq:qy4 F (n - 1) P gf lb encs Kp S Sp N w0)
  (hKt:∀{A B C:World},Kp A B→Kp B C→Kp A C) (hKb:∀(W:World) (l:Nat) (o':Obj),w.heap.size≤l→Kp W (W.putObj l o')) (hb0:Below w0.heap.size w0 w) (hps:∀x,(encs x).size=ps.size)
  (I:List α→World→Prop) (Ix:Code→List α→World→Prop) (hI:∀s W W',I s W→Chg [w.heap.size,w.heap.size+1] W W'→mj1 w.heap.size W'→I s W') (hIx:∀c s W W',Ix c s W→Chg [w.heap.size,w.heap.size+1] W W'→mj1 w.heap.size W'→Ix c s W') (h0:I [] w) (a₁:α→Act)
  (hassign:∀(l:Nat) (x:α) (W:World) (K:Act→World→Prop),K (a₁ x) W→
   assign.wpIn (F.inRound l) (n - 1 - 1) P (Exit.then K (fun _ _ _=>False)) { tmps:=(ps.zip (encs x)).foldl (fun t (p,v)=>t.setIfInBounds p v) a.tmps,defers:=[] } W)
  (hbody:∀(l:Nat) (pre:List α) (x:α) (W:World),mj1 w.heap.size W→I pre W→pre.length < N→body.wpIn (F.inRound l) (n - 1 - 1) P (ownPostG w.heap.size Kp I Ix (pre++[x]) W) (a₁ x) W)
  (hdone:∀(D:Nat) (xs:List α) (W:World),w.heap.size≤D→S xs→I xs W→W.heap[D]?=some (.deferred (some []))→D=w.heap.size→Q .normal { a with defers:={ target:=.collected D,args:=#[] }::a.defers } W)
  (hstop:∀(D:Nat) (c:Code) (pre:List α) (W:World),w.heap.size≤D→Sp pre→Ix c pre W→W.heap[D]?=some (.deferred (some []))→D=w.heap.size→c.wpIn F n P Q { a with defers:={ target:=.collected D,args:=#[] }::a.defers } W):
  (Code.rangeFunc g ps assign body).wpIn F n P Q a w:=by
 refine wpIn_rangeFunc ?_;intro fn hfn;rw[hro];obtain⟨rec,hrec⟩:∃rec:LoopState→Option Code→Loop,rec=fun st pe=>{ state:=st,pending:=pe,fn,tmps:=a.tmps,params:=ps,assign,body,defers:=w.heap.size }:=⟨_,rfl⟩;obtain⟨W1,hW1⟩:∃W1,(w.alloc (.deferred (some []))).alloc (.loop (rec .ready none))=W1:=⟨_,rfl⟩;have hL1:W1.heap[w.heap.size+1]?=some (.loop (rec .ready none)):=by
  rw[←hW1];have:=World.alloc_heap_new (w.alloc (.deferred (some []))) (.loop (rec .ready none));rwa [World.size_alloc]at this
 have hK1:W1.heap[w.heap.size]?=some (.deferred (some [])):=by
  rw[←hW1];exact(Below.heap_alloc _ _ _ (by simp)).trans (World.alloc_heap_new w _)
 have hbw:Below w.heap.size w W1:=by
  rw[←hW1];exact((Below.refl _ w).alloc (Nat.le_refl _) _).alloc (by simp) _
 have hI1:I [] W1:=hI [] w W1 h0 (Chg.of_below hbw _) ⟨hK1,_,hL1⟩;have hb1:Below w0.heap.size w0 W1:=hb0.trans (hbw.mono hb0.size);refine⟨w.heap.size+1,[{ target:=.collected w.heap.size,args:=#[] }],W1,{ target:=.fn (.func gf) lb,args:=#[.func (.yield (w.heap.size+1)) #[] #[]] },W1,gf,
  #[.func (.yield (w.heap.size+1)) #[] #[]] ++lb,W1,?_,?_,?_,?_,fun _=>h1,?_⟩
 ·rw[←hW1,hrec];exact run_enterLoop_outer _ _ _ _ _
 ·simp only[resolve,hg]
  simp[go_sem]
 ·intro f' hf';simp[Target.leads]at hf';subst hf';exact hFg
 ·simp[invoke,go_sem,eg]
 ·refine(hseq (w.heap.size+1)
   (fun pre W=>I pre W∧W.heap[w.heap.size+1]?=some (.loop (rec .ready none))∧W.heap[w.heap.size]?=some (.deferred (some [])))
   (fun pre W=>∃c,Ix c pre W∧W.heap[w.heap.size+1]?=some (.loop (rec .done (some c)))∧W.heap[w.heap.size]?=some (.deferred (some [])))
   W1 hb1 (fun s A hs=>⟨hI s A _ hs.1 ⟨rfl,rfl,rfl,Nat.le_refl _,fun _ _ _=>rfl⟩ ⟨hs.2.2,_,hs.2.1⟩,hs.2⟩) ?_ ⟨hI1,hL1,hK1⟩).mono ?_
  ·rintro pre x W ⟨hi,hl,hk⟩ hlen
   have hlt:w.heap.size+1 < W.heap.size:=(Array.getElem?_eq_some_iff.1 hl).1;have hy:=run_yield (P:=P) (args:=encs x) hl (by rw[hrec];exact hps x);rw[hrec]at hy;refine⟨fn,_,assign,body,hy,roundIn_of_wpIn hfn (hassign _ x W _ ⟨_,run_beginRound hl (by rw[hrec]),?_⟩)⟩;have hl2:(W.putObj (w.heap.size+1) (.loop { rec .ready none with state:=.busy })).heap[w.heap.size+1]?=some (.loop { rec .ready none with state:=.busy }):=World.putObj_heap_same hlt;have hk2:(W.putObj (w.heap.size+1) (.loop { rec .ready none with state:=.busy })).heap[w.heap.size]?=some (.deferred (some [])):=(World.putObj_heap_other (by omega)).trans hk;have hw2:Kp W (W.putObj (w.heap.size+1) (.loop { rec .ready none with state:=.busy })):=hKb _ _ _ (by omega);refine wpIn_mono (hbody _ pre x _ ⟨hk2,_,hl2⟩ (hI _ _ _ hi (mv1 (.inr rfl) _) ⟨hk2,_,hl2⟩) hlen) ?_;have fin:∀(jump:Option Code) (W3:World),KeepsFrom w.heap.size (W.putObj (w.heap.size+1) (.loop { rec .ready none with state:=.busy })) W3→
     (Instr.endRound (w.heap.size+1) jump).run P W3=.ok (.bool jump.isNone) (W3.putObj (w.heap.size+1) (.loop (rec (if jump.isNone then .ready else .done) jump)))∧
     W3.heap[w.heap.size+1]?=some (.loop { rec .ready none with state:=.busy })∧
     (W3.putObj (w.heap.size+1) (.loop (rec (if jump.isNone then .ready else .done) jump))).heap[w.heap.size+1]?=some (.loop (rec (if jump.isNone then .ready else .done) jump))∧
     (W3.putObj (w.heap.size+1) (.loop (rec (if jump.isNone then .ready else .done) jump))).heap[w.heap.size]?=some (.deferred (some [])):=fun jump W3 hk3=>by
    have hl3:=hk3.same _ _ (by omega) hl2 rfl;have:=run_endRound (P:=P) jump hl3;rw[hrec]at this ⊢;exact⟨this,by rw[hrec]at hl3;exact hl3,World.putObj_heap_same (Array.getElem?_eq_some_iff.1 hl3).1,(World.putObj_heap_other (by omega)).trans (hk3.same _ _ (Nat.le_refl _) hk2 rfl)⟩
   rintro e a3 W3 hp
   cases e with
   |normal=>
    obtain⟨hk3,hkp3,hi3⟩:=hp;obtain⟨hr,hl3,hl4,hk4⟩:=fin none W3 hk3;exact⟨_,_,hr,.inl ⟨rfl,⟨hI _ _ _ hi3 (mv1 (.inr rfl) _) ⟨hk4,_,hl4⟩,hl4,hk4⟩,hKt (hKt hw2 hkp3) (hKb _ _ _ (by omega))⟩⟩
   |ret=>
    obtain⟨hk3,hi3⟩:=hp;obtain⟨hr,hl3,hl4,hk4⟩:=fin (some .ret) W3 hk3;exact⟨_,_,hr,.inr ⟨rfl,.ret,hIx _ _ _ _ hi3 (mv1 (.inr rfl) _) ⟨hk4,_,hl4⟩,hl4,hk4⟩⟩
   |exit id=>
    obtain⟨hk3,hi3⟩:=hp;obtain⟨hr,hl3,hl4,hk4⟩:=fin (some (.exit id)) W3 hk3;exact⟨_,_,hr,.inr ⟨rfl,.exit id,hIx _ _ _ _ hi3 (mv1 (.inr rfl) _) ⟨hk4,_,hl4⟩,hl4,hk4⟩⟩
   |goto t=>
    obtain⟨hk3,hi3⟩:=hp;obtain⟨hr,hl3,hl4,hk4⟩:=fin (some (.goto t)) W3 hk3;exact⟨_,_,hr,.inr ⟨rfl,.goto t,hIx _ _ _ _ hi3 (mv1 (.inr rfl) _) ⟨hk4,_,hl4⟩,hl4,hk4⟩⟩
   |panic ch=>exact hp.elim
   |outgrown=>exact hp.elim
  ·rintro e W2 ⟨⟨v,rfl⟩,(⟨xs,hS,hi,hl,hk⟩|⟨pre,hSp,c,hi,hl,hk⟩)⟩
   ·exact⟨none,_,by have:=run_endLoop (P:=P) hl (by rw[hrec];simp);rw[hrec]at this;exact this,hdone _ xs _ (Nat.le_refl _) hS (hI _ _ _ hi (mv1 (.inr rfl) _) ⟨(World.putObj_heap_other (by omega)).trans hk,_,World.putObj_heap_same (Array.getElem?_eq_some_iff.1 hl).1⟩) ((World.putObj_heap_other (by omega)).trans hk) rfl⟩
   ·exact⟨some c,_,by have:=run_endLoop (P:=P) hl (by rw[hrec];simp);rw[hrec]at this;exact this,hstop _ c pre _ (Nat.le_refl _) hSp (hIx _ _ _ _ hi (mv1 (.inr rfl) _) ⟨(World.putObj_heap_other (by omega)).trans hk,_,World.putObj_heap_same (Array.getElem?_eq_some_iff.1 hl).1⟩) ((World.putObj_heap_other (by omega)).trans hk) rfl⟩
end
theorem by4 (F:Fence) (n:Nat) (h7:F.fn 205) (hro:F.round=none) (hn:1≤n) (Bs Bn:Nat) (Kp:World→World→Prop) (hKc:∀W W',Kp W W'→W'.cell? ⟨Bs,0,none⟩=W.cell? ⟨Bs,0,none⟩∧W'.cell? ⟨Bn,0,none⟩=W.cell? ⟨Bn,0,none⟩) (p:Addr) (len cap m:Nat) (L:List It) (hL:L.length=len) (hm:1≤m) (hm2:m≤1000) (hlen:len≤100000) (hcap:len≤cap) {N:Nat} (hN:∀k,k *m < len→k < N) (w:World) (hb1:Bs < w.heap.size) (hb2:Bn < w.heap.size)
  (hBs:w.cell? ⟨Bs,0,none⟩=some (.slice (some p) len cap)) (hBn:w.cell? ⟨Bn,0,none⟩=some (.int .i64 (m:Int))):
  qy4 F n Tryz.prog 205 #[.pointer (some ⟨Bs,0,none⟩),.pointer (some ⟨Bn,0,none⟩)] (fun x:Ck m len=>#[Ck.val p x]) Kp (fun ys=>ys.map (Ck.of L)=Tb.cut m len L) (fun _=>True) N w:=fun l J Jx W hW hJd hY h0=>
 (tj3 F n h7 hro hn l Bs Bn Kp hKc p len cap m L hL hm hm2 hlen hcap J Jx hJd (fun pre x W hj hl=>hY pre x W hj (hN _ hl)) W ((hW.cell (p:=⟨Bs,0,none⟩) hb1).trans hBs) ((hW.cell (p:=⟨Bn,0,none⟩) hb2).trans hBn) h0).mono fun _ _ ⟨he,h⟩=>⟨he,h.imp id fun⟨pre,h1⟩=>⟨pre,trivial,h1⟩⟩
end
section
open Go Go.RowKit Go.Lib Go.Shelf
variable {w w1 w2:World} {X X1 X2:Dw} {S S1 S2:Sd} {Y Y1 Y2:Yw} {V V1 V2:Sv}
theorem oq3 (hno:∀s∈S.list,St.aq1 s=false):St.uy2 S=true:=by
 unfold St.uy2;have:(S.list.any fun s=>St.aq1 s&&!St.isNone S s)=false:=by
  rw[List.any_eq_false];intro s hs;rw[hno s hs];simp
 rw[this];rfl
theorem xx3 (h:Dm w X S) (hd:S.dead=false) (hno:∀s∈S.list,St.aq1 s=false) (hld:S.load≤100000000000) (S':Sd) (V':Sv) (hR:St.create S=(S',some V',0)):
  Calls Tryz.prog 31 #[.pointer (some ⟨X.d,0,none⟩)] w (tz1 X w S' V'):=by
 have hin:=rz2 X S w h;rw[oq3 hno]at hin;have hcr:∀W,Below w.heap.size w W→Calls Tryz.prog 78 #[.pointer (some ⟨X.d,0,none⟩)] W (tz1 X w S' V'):=fun W hb=>(aj3 (h.below hb) hno hld S' V' hR).mono fun e w' ⟨X',Y,q1,q2,q3,q4,q5⟩=>⟨X',Y,q1,q2,q3,(Chg.of_below hb X.foot).trans q4 (fun g hg=>.inl hg),fun g hg=>(q5 g hg).imp id (Nat.le_trans hb.size)⟩;have c6:=h.dk.box.cell 6;simp only[Dw.cells,gE0,gE1]at c6;rw[hd]at c6;have HIN:=Lib.hid hin;have HCR:=Lib.hid hcr;clear h hd hin hcr hno hR hld;go_enter Tryz.func31,Tryz.ntmps31;go_wp2_with (first|(go_at_call 40;go_in)|fail)
 with_reducible refine HIN.out.mono ?_
 rintro e w1 ⟨rfl,hb1⟩;go_wp2_with fail
 with_reducible refine(HCR.out w1 hb1).mono ?_
 rintro e w2 ⟨X',Y,rfl,h2⟩;have HZ:Hid (tz1 X w S' V' (.returned (.tuple #[.pointer (some ⟨Y.s,0,none⟩),.int .i64 0])) w2):=Lib.hid ⟨X',Y,rfl,h2⟩;clear h2 hb1 HIN HCR;go_wp2;go_ret2;exact HZ.out
end
section
open Go
namespace Ls
section
variable (L:Sd→List (List UInt8))
end
end Ls
end
section
open Go
namespace Aw
end Aw
end
section
open Go Go.RowKit Go.Lib Go.Shelf
variable {w w1 w2:World} {X X1 X2:Dw} {S S1 S2:Sd} {Y Y1 Y2:Yw} {V V1 V2:Sv}
end
section
open Go Go.RowKit Go.Lib Go.Shelf
variable {w w1 w2:World} {X X1 X2:Dw} {S S1 S2:Sd} {Y Y1 Y2:Yw} {V V1 V2:Sv}
end
section
open Go Go.RowKit Go.Lib Go.Shelf
variable {w w1 w2:World} {X X1 X2:Dw} {S S1 S2:Sd} {Y Y1 Y2:Yw} {V V1 V2:Sv}
end
section
open Go Go.RowKit Go.Lib Go.Shelf
variable {w w1 w2:World} {X X1 X2:Dw} {S S1 S2:Sd} {Y Y1 Y2:Yw} {V V1 V2:Sv}
end
section
open Go Go.RowKit Go.Lib
end
section
open Go Go.RowKit Go.Lib
end
section
open Go Go.RowKit Go.Lib
end
section
open Go Go.RowKit Go.Lib Go.Shelf
variable {w w1 w2:World} {X X1 X2:Dw} {S S1 S2:Sd} {Y Y1 Y2:Yw} {V V1 V2:Sv}
end
section
open Go Go.RowKit Go.Lib Go.Shelf
variable {w w1 w2:World} {X X1 X2:Dw} {S S1 S2:Sd} {Y Y1 Y2:Yw} {V V1 V2:Sv}
end
end Go.Proofs.YthjdpplgfdihoaaGreatDoor
