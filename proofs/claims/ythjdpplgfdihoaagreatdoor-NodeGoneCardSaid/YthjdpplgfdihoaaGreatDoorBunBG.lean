/- Texts MergeB, PurgeS in one. No conditions. -/
import Derived.Test.YthjdpplgfdihoaaGreatDoorBunBD
import Derived.Test.YthjdpplgfdihoaaGreatDoorBunAZ

set_option linter.unusedSimpArgs false
set_option linter.unusedVariables false
set_option maxRecDepth 100000
set_option maxHeartbeats 16000000
namespace Go.Proofs.YthjdpplgfdihoaaGreatDoor
section
open Go Go.RowKit Go.Lib Go.Shelf
attribute [local go_sem] Oper.semAt_some
variable {w w1 w2:World} {X X1 X2:Dw} {S S1 S2:Sd} {Y Y1 Y2:Yw} {V V1 V2:Sv}
theorem St.ex2:∀(l:List Int) (S:Sd),(St.drops l S).load≤S.load+l.length
 |[],_=>x_ _
 |n::l,S=>h_ (St.ex2 l _) (by have:=Sd.bq1 S (Mn.name Mn.kTab n);rw[r_];omega)
def MgD (w:World) (X:Dw) (Y:Yw) (LB:Nat) (D:Option Addr) (dm dd:Nat) (inn:List Int) (Tr:Sd×Sv×Nat) (Y2:Yw) (j:Nat) (wr:World):Prop:=∃S3 X3,S3=(if Tr.2.2=0 then St.drops (inn.take j) Tr.1 else Tr.1)∧MgE w X Y LB D dm dd wr S3 Tr.2.1 X3 Y2
def NoP (Q:Exit→Act→World→Prop):Exit→Act→World→Prop
 |.panic _,_,_=>False
 |e,a,w=>Q e a w
theorem hy5 {P:Program} {c:Code} {Q:Exit→Act→World→Prop} {a:Act} {w:World} (h:c.wp P (NoP Q) a w):c.wp P Q a w:=Code.wp_mono (fun e a w q=>by cases e<;>first|exact q|exact q.elim) h
theorem xk4 (w:World) (s:Nat) (D:Option Addr) (dm dd:Nat) (lev:Int) (N:Option Addr) (nn nc:Nat) (W:World) (hW:W=((((((w.alloc (.cells #[.pointer (some ⟨s,0,none⟩)] 51)).alloc (.cells #[.slice D dm dd] 48)).alloc (.cells #[.int .i64 lev] 3)).alloc (.cells #[.slice N nn nc] 31)).alloc (.cells #[.int .i64 0] 26)).alloc (.cells #[.slice D dm dd,.slice none 0 0,.int .i64 0,.int .u64 0,.int .u64 0,.int .u64 0,.int .u64 0] 194))):
  (BoxO W 51 w.heap.size [.pointer (some ⟨s,0,none⟩)]∧BoxO W 48 (w.heap.size+1) [.slice D dm dd]∧BoxO W 3 (w.heap.size+2) [.int .i64 lev]∧BoxO W 31 (w.heap.size+3) [.slice N nn nc]∧BoxO W 26 (w.heap.size+4) [.int .i64 0]∧
   BoxO W 194 (w.heap.size+5) [.slice D dm dd,.slice none 0 0,.int .i64 0,.int .u64 0,.int .u64 0,.int .u64 0,.int .u64 0])∧W.heap.size=w.heap.size+6∧Below w.heap.size w W:=by
 subst hW;refine⟨⟨?_,?_,?_,?_,?_,?_⟩,by simp,?_⟩
 ·exact(((((BoxO.new w _ _).alloc _).alloc _).alloc _).alloc _).alloc _
 ·have h:=((((BoxO.new (w.alloc (.cells #[.pointer (some ⟨s,0,none⟩)] 51)) #[.slice D dm dd] 48).alloc (.cells #[.int .i64 lev] 3)).alloc (.cells #[.slice N nn nc] 31)).alloc (.cells #[.int .i64 0] 26)).alloc (.cells #[.slice D dm dd,.slice none 0 0,.int .i64 0,.int .u64 0,.int .u64 0,.int .u64 0,.int .u64 0] 194)
  simpa using h
 ·have h:=(((BoxO.new ((w.alloc (.cells #[.pointer (some ⟨s,0,none⟩)] 51)).alloc (.cells #[.slice D dm dd] 48)) #[.int .i64 lev] 3).alloc (.cells #[.slice N nn nc] 31)).alloc (.cells #[.int .i64 0] 26)).alloc (.cells #[.slice D dm dd,.slice none 0 0,.int .i64 0,.int .u64 0,.int .u64 0,.int .u64 0,.int .u64 0] 194)
  simpa using h
 ·have h:=((BoxO.new (((w.alloc (.cells #[.pointer (some ⟨s,0,none⟩)] 51)).alloc (.cells #[.slice D dm dd] 48)).alloc (.cells #[.int .i64 lev] 3)) #[.slice N nn nc] 31).alloc (.cells #[.int .i64 0] 26)).alloc (.cells #[.slice D dm dd,.slice none 0 0,.int .i64 0,.int .u64 0,.int .u64 0,.int .u64 0,.int .u64 0] 194)
  simpa using h
 ·have h:=(BoxO.new ((((w.alloc (.cells #[.pointer (some ⟨s,0,none⟩)] 51)).alloc (.cells #[.slice D dm dd] 48)).alloc (.cells #[.int .i64 lev] 3)).alloc (.cells #[.slice N nn nc] 31)) #[.int .i64 0] 26).alloc (.cells #[.slice D dm dd,.slice none 0 0,.int .i64 0,.int .u64 0,.int .u64 0,.int .u64 0,.int .u64 0] 194)
  simpa using h
 ·have h:=BoxO.new (((((w.alloc (.cells #[.pointer (some ⟨s,0,none⟩)] 51)).alloc (.cells #[.slice D dm dd] 48)).alloc (.cells #[.int .i64 lev] 3)).alloc (.cells #[.slice N nn nc] 31)).alloc (.cells #[.int .i64 0] 26)) #[.slice D dm dd,.slice none 0 0,.int .i64 0,.int .u64 0,.int .u64 0,.int .u64 0,.int .u64 0] 194
  simpa using h
 ·exact((((((Below.refl _ w).alloc l_ _).alloc (by simp) _).alloc (by simp;omega) _).alloc (by simp;omega) _).alloc (by simp;omega) _).alloc (by simp;omega) _
theorem kz14 {P S a oi v} (h:Hv P S a oi v:=by intro w hSw;(obtain⟨g0,g1⟩:=HKC.out _ hSw);go_simp;try (with_reducible rfl)):Hv P S a oi v:=h
theorem sz3 (h:SvAt w X S Y V) (D:Option Addr) (dm dd:Nat) (inn:List Int) (lev:Int) (L:Option Addr) (lm lc:Nat) (l:List It) (N:Option Addr) (nn nc:Nat) (next:List It)
  (hdm:dm≤1000) (hrd:Row w.heap.size w D dm 1 (vk inn)) (hDx:∀a,D=some a→a.block∉XY X Y∧a.block < w.heap.size) (hin:∀n∈inn,0≤n∧n≤2147483648)
  (hlm:lm≤100000) (hlc:lm≤lc) (hrl:Row w.heap.size w L lm 5 (itc l)) (hLx:∀a,L=some a→a.block∉XY X Y) (hfit:∀x∈l,x.fit) (hgd:∀r∈Tb.cut 200 l.length l,Tb.good r=true)
  (hnx:qx (XY X Y) w fun w=>Its 0 w N nn nc next) (hvf:V.M.v.files.length≤40) (htl:V.tabs.length≤1000) (hc0:V.M.count≤1000000000) (hnl:V.M.name.length≤1000) (hld:S.load≤100000000000):
  Calls Tryz.prog 103 #[.pointer (some ⟨Y.s,0,none⟩),.slice D dm dd,.int .i64 lev,.slice L lm lc,.slice N nn nc] w (cv1 X Y w (St.merge S V inn lev l next)):=by
 obtain⟨R,hR⟩:=n_ (St.merge S V inn lev l next);rw[←hR];have hll:=hrl.uz;have hxlt:=h.lt;obtain⟨W,hW⟩:=n_ (((((((w.alloc (.cells #[.pointer (some ⟨Y.s,0,none⟩)] 51)).alloc (.cells #[.slice D dm dd] 48)).alloc (.cells #[.int .i64 lev] 3)).alloc (.cells #[.slice N nn nc] 31)).alloc (.cells #[.int .i64 0] 26)).alloc (.cells #[.slice D dm dd,.slice none 0 0,.int .i64 0,.int .u64 0,.int .u64 0,.int .u64 0,.int .u64 0] 194)));obtain⟨⟨b0,b1,b2,b3,b4,b5⟩,hWs,hWb⟩:=xk4 w Y.s D dm dd lev N nn nc W hW;have k1:Way w X Y V W X S:=⟨h.below hWb,rfl,Chg.of_below hWb _,fun _ hg=>.inl hg⟩;have t0:=b0.cell 0;have t1:=b1.cell 0;have c4:=k1.at_.box.cell 4;simp only[Yw.cells,gE0,gE1]at t0 t1 c4;obtain⟨hq,hrow,hTc,hTm,hTn,hTb⟩:=h.tabs.now;have htn:=h.tlen;have hcl:=dx2 Y.T.a Y.T.n Y.T.c Y.q W (by omega) hTn ((hrow.below hWb).up hWb.size);have HCL:=H_ hcl;have HH:=H_ h;have HK1:=H_ k1;have HB:=H_ (d_ b0 (d_ b1 (d_ b2 (d_ b3 (d_ b4 b5)))));have HW:=H_ (d_ hWs (d_ hWb hxlt));have HR:=H_ hR;have HRD:=H_ hrd;have HRL:=H_ hrl;have HNX:=H_ hnx;have HLL:=H_ hll;have HQ:=H_ hq;have HTN:=H_ htn;rw[hW]at t0 t1 c4;clear hcl h k1 b0 b1 b2 b3 b4 b5 hWs hWb hxlt hR hrd hrl hnx hll hq htn hrow hTc hTm hTn hTb;refine(callsIn_wide (n:=6)).1 ?_;refine callsIn_of_wp_marks Tryz.func103 rfl trivial ?_ rfl;simp only[Tryz.ntmps103,aj_,r_,R_,Nat.reduceAdd,Nat.reduceSub,aL_,aM_,aZ_,aQ_,y_,N_]
 gi_wp2_with fail
 rw[←hW];clear t0 t1 c4 hW;refine⟨trivial,?_⟩
 with_reducible refine(callsIn_wide.2 HCL.out).mono ?_
 rintro e w2 ⟨A2,c2,rfl,ho2,hb2⟩;have hlo2:∀a,A2=some a→W.heap.size≤a.block:=(uj1 ho2).2.2;have hdl:=lw4 192 (fun _ _=>rfl) #[.pointer (some ⟨w.heap.size+1,0,none⟩)] (fun x=>decide (x.1.1.2∈inn)) W.heap.size A2 Y.T.n c2 c2 Y.q w2 (by have:=HTN.out;omega) (uj1 ho2).1 hb2.size ho2 (fun x w3 hc=>by
  have c3:=kk2 hc;have hws:=HW.out.1;have hrd2:=(HRD.out.below (HW.out.2.1.trans (hb2.mono HW.out.2.1.size))).up (h_ HW.out.2.1.size hb2.size);refine nq3 x inn D dm dd (w.heap.size+1) w3 (by omega) (((HB.out.2.1.below hb2).chg c3 (zx1 fun a ha=>by have:=hlo2 a ha;omega)).cell 0) ((oq c3 hrd2 l_ (fun j hj a ha hm=>?_)).up c3.size);obtain⟨a',e,q1,_⟩:=HRD.out.cell j hj;rw[ha]at e;injection e with e;subst e;have:=zx1 (g:=a.block) (A:=A2) (fun a2 ha2=>by have:=hlo2 a2 ha2;omega);exact this hm)
 have HDL:=H_ hdl;have HB2:=H_ hb2;clear hdl ho2 hb2 hlo2 HCL
 gi_wp2_with fail
 refine⟨trivial,?_⟩
 with_reducible refine(callsIn_wide.2 HDL.out).mono ?_
 rintro e w3 ⟨k,A3,rfl,hk,ho3,hb3⟩;have HK3:=H_ hk;have H3:=H_ (d_ ho3 (HB2.out.trans hb3));clear hk ho3 hb3 HDL HB2
 gi_wp2_with (refine⟨trivial,?_⟩;gi_at_call 121;refine(oq2 Fence.wide 5 trivial rfl L lm lc 200 (by omega) _).mono ?_;rintro e w' ⟨rfl,rfl⟩)
 obtain⟨p,hp⟩:∃p,0 < lm→L=some p:=by
  cases L with
  |none=>
   refine⟨⟨0,0,none⟩,fun h=>?_⟩;obtain⟨a,_,e,_⟩:=HRL.out.it h
   cases e
  |some p=>exact⟨p,fun _=>rfl⟩
 have hs3:=H3.out.2.size;have hws:=HW.out.1;have bt:=BoxO.new w3 #[.slice A3 k c2] 141;have bS:=BoxO.new (w3.alloc (.cells #[.slice A3 k c2] 141)) #[.slice L lm lc] 31;have bM:=BoxO.new ((w3.alloc (.cells #[.slice A3 k c2] 141)).alloc (.cells #[.slice L lm lc] 31)) #[.int .i64 ((200:Nat):Int)] 3;simp only[A_]at bS bM;have hb5:=((b_ w3 (.cells #[.slice A3 k c2] 141)).alloc (by simp) (.cells #[.slice L lm lc] 31)).alloc (by simp;omega) (.cells #[.int .i64 ((200:Nat):Int)] 3);have bt5:=(bt.alloc (.cells #[.slice L lm lc] 31)).alloc (.cells #[.int .i64 ((200:Nat):Int)] 3);have bS5:=bS.alloc (.cells #[.int .i64 ((200:Nat):Int)] 3);have hst:=xq2 Fence.wide 5 trivial rfl (by omega) (w3.heap.size+1) (w3.heap.size+1+1) (fun W W'=>W'.heap[w3.heap.size+1]?=W.heap[w3.heap.size+1]?∧W'.heap[w3.heap.size+1+1]?=W.heap[w3.heap.size+1+1]?) (fun W W' h=>⟨W_ h.1,W_ h.2⟩) p L lm lc 200 hp l HLL.out (by omega) (by omega) hlm hlc (N:=lm) (fun k hk=>by omega) (((w3.alloc (.cells #[.slice A3 k c2] 141)).alloc (.cells #[.slice L lm lc] 31)).alloc (.cells #[.int .i64 ((200:Nat):Int)] 3)) (by simp) (by simp) (bS5.cell 0) (bM.cell 0);rw[show ((200:Nat):Int)=(200:Int) from rfl]at hst hb5 bt5 bS5 bM;obtain⟨W5,hW5⟩:=n_ ((((w3.alloc (.cells #[.slice A3 k c2] 141)).alloc (.cells #[.slice L lm lc] 31)).alloc (.cells #[.int .i64 200] 3)));have hs5:W5.heap.size=w3.heap.size+3:=by rw[hW5];simp
 rw[←hW5]at hst hb5 bt5 bS5 bM ⊢;obtain⟨q0,hq0⟩:=n_ (Y.q.filter fun x=>!decide (x.1.1.2∈inn));have ho3:=H3.out.1;rw[←hq0]at ho3;have hbW:Below w.heap.size w W5:=HW.out.2.1.trans ((az H3.out.2 hb5).mono HW.out.2.1.size);have hborn:∀W' r,Below W5.heap.size W5 W'→nx3 W5.heap.size r W'→MgK w X Y V w3.heap.size W5.heap.size r D dm dd lev N nn nc L lm lc q0 W' X S ⟨none,0,0⟩ ⟨A3,k,c2⟩ [] [] []:=by
  intro W' r hb hla;have hbW':=HK1.out.below ((az H3.out.2 hb5).trans (hb.mono (by omega)));have hot:=own_below (own_below ho3 hb5) hb;have hx:=HW.out.2.2;have hn:∀g,w.heap.size≤g→g < w.heap.size+4∨g=w3.heap.size+1∨g=w3.heap.size+2→g∉blk ⟨A3,k,c2⟩→g∉mgG w.heap.size w3.heap.size W5.heap.size ⟨none,0,0⟩ ⟨A3,k,c2⟩++XY X Y:=fun g h1 h2 h3 hm=>by
   rcases q_.1 hm with q|q
   ·rcases iq.1 q with q|q|q|q|q|q|q
    ·omega
    ·omega
    ·omega
    ·omega
    ·omega
    ·simp[blk,Value.ownBlock]at q
    ·exact h3 q
   ·have:=hx g q
    omega
  have hb2W:Below W.heap.size W W':=(az H3.out.2 hb5).trans (hb.mono (by omega));obtain⟨a0,a1,a2,a3,a4,a5⟩:=HB.out;have hbt:=bt5.below hb;have hbS:=bS5.below hb;have hbM:=bM.below hb;have a5':=a5.below hb2W;have hno:∀{e:TypeId} {g:Nat} {ys:List Value},BoxO W' e g ys→173≠e→g∉blk ⟨A3,k,c2⟩:=fun hbx hne hm=>dx1 hot hbx hne (lq.1 hm);refine⟨hbW',hla,⟨by omega,by omega⟩,fun W'' c=>⟨⟨(a0.below hb2W).chg c (hn _ (by omega) (by omega) (hno (a0.below hb2W) (by decide))),(a1.below hb2W).chg c (hn _ (by omega) (by omega) (hno (a1.below hb2W) (by decide))),(a2.below hb2W).chg c (hn _ (by omega) (by omega) (hno (a2.below hb2W) (by decide))),(a3.below hb2W).chg c (hn _ (by omega) (by omega) (hno (a3.below hb2W) (by decide))),hbS.chg c (hn _ (by omega) (by omega) (hno hbS (by decide))),hbM.chg c (hn _ (by omega) (by omega) (hno hbM (by decide)))⟩,fun p hp=>by cases hp⟩,a5',hbt,a4.below hb2W,E_ _ _ _ _,by rw[aU_];exact own_base hot (by omega),fun g hg hm=>?_⟩;have hge:w.heap.size≤g:=by
   rcases iq.1 hg with q|q|q|q|q|q|q
   ·omega
   ·omega
   ·omega
   ·omega
   ·omega
   ·simp[blk,Value.ownBlock]at q
   ·have:=(hot.lt g (lq.1 q)).1
    omega
  have:=hx g hm;omega
 have HBORN:=H_ hborn;have HP:=H_ hp;have HS5:=H_ hs5;have HBW:=H_ hbW;have HQ0:=H_ hq0;have HWS:=H_ (d_ hws hs3);clear hborn hp hs5 hbW hq0 hws hs3 ho3 bt bS bM bt5 bS5 hb5 hW5 H3;rename_i Kq hKq;refine ek1 (α:=Ck 200 lm) (n:=6) (encs:=fun x=>#[Ck.val p x]) rfl (by omega) (gf:=205) (lb:=#[.pointer (some ⟨w3.heap.size+1,0,none⟩),.pointer (some ⟨w3.heap.size+1+1,0,none⟩)]) rfl trivial (enters_of Tryz.func205 (by kernel_rfl) rfl) hst (fun h k=>⟨k.1.trans h.1,k.2.trans h.2⟩) ?hKb b0_ (fun _=>rfl)
  (fun pre W=>(pre=[]∧W=W5)∨∃r S1 X1 F T q1,MgK w X Y V w3.heap.size W5.heap.size r D dm dd lev N nn nc L lm lc q0 W X1 S1 F T (q1.map (·.1.1)) q1 q1∧pre.map (Ck.of l)=(Tb.cut 200 lm l).take pre.length∧St.writes lev (pre.map (Ck.of l)) S []=(S1,q1.map (·.1),0)∧S1.load≤S.load+3 *pre.length∧q1.length=pre.length)
  (fun c pre W=>c=.ret∧∃S1 X1 er,er≠0∧R=(S1,V,er)∧Way w X Y V W X1 S1∧BoxO W 26 (w.heap.size+4) [.int .i64 ((er:Nat):Int)]∧(W5.heap.size∉XY X1 Y∧W5.heap.size+1∉XY X1 Y)∧aj1 W5.heap.size W) ?hI ?hIx (.inl ⟨rfl,rfl⟩)
  (fun x=>{ tmps:=#[.pointer (some ⟨Y.s,0,none⟩),.slice D dm dd,.int .i64 lev,.slice L lm lc,.slice N nn nc,.pointer (some ⟨w.heap.size,0,none⟩),.pointer (some ⟨w.heap.size+1,0,none⟩),.pointer (some ⟨w.heap.size+1+1,0,none⟩),undef,.pointer (some ⟨w.heap.size+1+1+1,0,none⟩),.pointer (some ⟨w.heap.size+1+1+1+1,0,none⟩),.pointer (some ⟨w.heap.size+1+1+1+1+1,0,none⟩),.pointer (some ⟨w3.heap.size,0,none⟩),Ck.val p x,undef,undef,undef,undef,undef,.slice D dm dd,.agg #[.slice D dm dd,.slice none 0 0,.int .i64 0,.int .u64 0,.int .u64 0,.int .u64 0,.int .u64 0],.pointer (some ⟨Y.s,0,none⟩),.pointer (some ⟨Y.s,0,none⟩),.pointer (some ⟨Y.s,4,none⟩),.slice Y.T.a Y.T.n Y.T.c,.slice A2 Y.T.n c2,.func (.func 192) #[] #[.pointer (some ⟨w.heap.size+1,0,none⟩)],.slice A3 k c2,.slice L lm lc,.func (.func 205) #[] #[.pointer (some ⟨w3.heap.size+1,0,none⟩),.pointer (some ⟨w3.heap.size+1+1,0,none⟩)],Ck.val p x,undef,undef,undef,undef,undef,undef,undef,undef,undef,undef,undef,undef,undef,undef,undef,undef,undef,undef,undef,undef,undef,undef,undef,undef,undef,undef,undef,undef,undef,undef,undef,undef,undef,undef,undef,undef,undef,undef,undef,undef,undef,undef],defers:=[] }) ?assig ?body ?done ?stop
 case hKb=>
  have hs5:=HS5.out;intro W l2 o' hl;exact⟨I_ (by omega),I_ (by omega)⟩
 case hI=>
  rintro pre W W' (⟨rfl,rfl⟩|⟨r,S1,X1,F,T,q1,h2,h3⟩) hc ⟨hl1,r2,hl2⟩
  ·exact .inr ⟨r2,S,X,⟨none,0,0⟩,⟨A3,k,c2⟩,[],HBORN.out _ _ (hc.below l_ (fun g hg=>by simp at hg;omega)) ⟨hl1,hl2⟩,by simp,by simp[St.writes],by omega,rfl⟩
  ·exact .inr ⟨r2,S1,X1,F,T,q1,h2.loop HH.out hc ⟨hl1,hl2⟩,h3⟩
 case hIx=>
  rintro c2 pre W W' ⟨h1,S1,X1,er,h2,h3,h4,h5,h6,h7⟩ hc hl;have h8:=h7.box h5;have h9:=HBW.out.size;refine⟨h1,S1,X1,er,h2,h3,Way.scr HH.out h4 (fun g hg=>?_) hc,h5.chg hc (by simp;omega),h6,hl⟩
  rcases g_.1 hg with rfl|hg
  ·exact⟨h9,h6.1⟩
  ·rw[c_.1 hg]
   exact⟨by omega,h6.2⟩
 case assig=>
  intro l2 x W K hK
  gi_wp2
  exact hK
 case body=>
  rintro l2 pre x W6 ⟨hla1,r0,hla2⟩ hI hlt hx;have hpr:∃r S1 X1 F T q1,MgK w X Y V w3.heap.size W5.heap.size r D dm dd lev N nn nc L lm lc q0 W6 X1 S1 F T (q1.map (·.1.1)) q1 q1∧pre.map (Ck.of l)=(Tb.cut 200 lm l).take pre.length∧St.writes lev (pre.map (Ck.of l)) S []=(S1,q1.map (·.1),0)∧S1.load≤S.load+3 *pre.length∧q1.length=pre.length:=by
   rcases hI with ⟨_,rfl⟩|h
   ·exact absurd (w_.1 hla1).1 (by omega)
   ·exact h
  obtain⟨r,S1,X1,F,T,q1,hm,hp1,hp2,hp3,hp4⟩:=hpr;obtain⟨⟨b0,b1,b2,b3,bS,bM⟩,_⟩:=hm.fix.now;have t5:=b0.c0;have t7:W6.cell? ⟨w.heap.size+1+1,0,none⟩=some (.int .i64 lev):=b2.cell 0;have hx2:=x.2;have hxl:x.len≤200:=by unfold Ck.len;omega
  have hL:L=some p:=HP.out (by omega);have hrw:Row W6.heap.size W6 (some p) lm 5 (itc l):=by rw[←hL];exact(oq hm.way.c HRL.out l_ (fun j _ a ha=>hLx a ha)).up hm.way.c.size
  have hcr:=ux3 (m:=200) hrw x;have hcut:=rw4 (m:=200) (by omega) HLL.out hx hp1;have hcg:=zk2 (m:=200) (by omega) lm l (by rw[HLL.out];exact x_ _) x.1 (by rw[HLL.out];exact hx2);have hgx:Tb.good (Ck.of l x)=true:=hgd _ (by rw[HLL.out];exact p_ hcg);have hwr:=gz2 hm.way.at_ (some (p.add (x.1 *200 *5))) x.len x.len (Ck.of l x) (by omega) l_ hcr (fun y hy=>hfit y (bS_ (aN_ hy))) hgx lev (by omega);obtain⟨n,hn⟩:=n_ (St.number S1);obtain⟨a,ha⟩:=n_ (St.write S1 (Ck.of l x));have hal:a.1.load≤S1.load+3:=by rw[ha];exact yj S1 (Ck.of l x)
  have hRf:a.2≠0→R=(a.1,V,a.2):=fun he=>by
   rw[HR.out,ha];rw[ha]at he;refine St.sk3 (pre:=pre.map (Ck.of l)) ?_ hp2 he;rw[HLL.out];simpa using hcut
  have hwn:a.2=0→St.writes lev ((pre++[x]).map (Ck.of l)) S []=(a.1,(q1.map (·.1))++[((lev,n),Tb.rows (Ck.of l x))],0):=fun he=>by
   rw[ha]at he;rw[aD_,St.ky1,hp2,if_neg (by simp),ha,hn];simp only[aw_,bb_,St.writes,if_neg (show ¬(St.write S1 (Ck.of l x)).2≠0 from fun h=>h he)]
  rw[←ha,←hn]at hwr;obtain⟨S8,er8⟩:=a;unfold xy2 at hwr;simp only at hwr hal hRf hwn;rw[show Ck.val p x=.slice (some (p.add (x.1 *200 *5))) x.len x.len from rfl];have HWR:=H_ hwr;have HM:=H_ hm;have HRF:=H_ hRf;have HWN:=H_ hwn;have HCU:=H_ hcut;have HPL:=H_ (d_ hp3 (d_ hp4 hal));have HXL:=H_ hxl;clear hwr hRf hwn ha hn hcut hp1 hp2 hp3 hp4 hal hm hrw hcr hcg hgx b0 b1 b2 b3 bS bM hI hla1 hla2 hst hx hx2 hxl hL
  gi_wp2_with fail
  refine⟨trivial,?_⟩
  with_reducible refine(CallsIn.inRound l2 (callsIn_wide.2 HWR.out)).mono ?_
  rintro e w6 ⟨va,vb,vp,X8,rfl,e8,hs8,hc8,hf8,hok⟩;have hm6:=HM.out.disk e8 hs8 hc8 hf8;have hbA:=b_ w6 (.cells #[.int .i64 va,.int .i64 vb,.pointer vp] 173);have hm7:=hm6.below hbA;have hbh:=BoxO.new w6 #[.int .i64 va,.int .i64 vb,.pointer vp] 173
  by_cases h8:er8=0
  ·subst h8
   obtain⟨f,hva,hvb,hvp,hft⟩:=hok rfl;have hvb2:=hvb.symm;have hva2:=hva.symm;subst hvb2 hvp hva2;have hWN:=HWN.out rfl;have hlt6:=HM.out.lt;have hm6:=hm6.tab (x:=(((lev,n),Tb.rows (Ck.of l x)),f)) (hft _ (fun g hg=>by
    rcases q_.1 hg with q|q
    ·exact .inr (hlt6 g q).2
    ·exact .inl q))
   have hm7:=hm6.below hbA;clear hok hft hs8 hc8 hf8 e8 HWR hm7 HRF;have hm7:=hm6.below hbA;have hbB:=(Below.refl (w6.alloc (.cells #[.int .i64 lev,.int .i64 n,.pointer (some ⟨f,0,none⟩)] 173)).heap.size (w6.alloc (.cells #[.int .i64 lev,.int .i64 n,.pointer (some ⟨f,0,none⟩)] 173))).alloc l_ (.cells #[.int .i64 lev,.int .i64 n] 170);have hbf:=BoxO.new (w6.alloc (.cells #[.int .i64 lev,.int .i64 n,.pointer (some ⟨f,0,none⟩)] 173)) #[.int .i64 lev,.int .i64 n] 170;have hm8:=hm7.below hbB;have hbh8:=hbh.below hbB;have hlt7:=hm6.lt;have x1:(w6.alloc (.cells #[.int .i64 lev,.int .i64 n,.pointer (some ⟨f,0,none⟩)] 173)).cell? ⟨w.heap.size+1+1+1+1+1,1,none⟩=some (.slice F.a F.n F.c):=hm7.bx.cell 1;have u0:=hbh.c0;have u1:=hbh.c1;rw[A_]at hbf;obtain⟨i0,hi0,hz0,hz1,hz2⟩:=info_parts jw1;have hFn:F.n=q1.length:=by
    have:=hm8.oa.1;have e:∀l:List (Int×Int),(ax l).length=l.length *2:=fun l=>by
     induction l with
     |nil=>rfl
     |cons a l ih=>unfold ax at *;rw[M_,e_,ih,r_];simp only[r_,R_];omega
    rw[e,az_]at this;omega
   have HFN:Hid (F.n≤100000):=H_ (by have:=HPL.out.2.1;omega);clear hFn;have hAW:=hm8.way.c.size;have hr8:=gj3 hbf rfl;have hoa:=hm8.oa;have HM8:=H_ hm8;have HBH:=H_ hbh8;have HWN2:=H_ hWN;have HL7:=H_ hlt7;clear hm8 hbh8 hWN hm7 hbB hbh hm6 hbA hlt6 hlt7 hbf HWN
   gi_wp2_with (gi_at_builtin;refine iy ?_)
   refine gz (qx1 rfl (.tmp 42) (.tmp 45) _ rfl w.heap.size 170 i0 _ 2 16 Tryz.underlying84 hi0 hz0 hz1 hz2 rfl (by omega) hAW (.slice F.a F.n F.c) F.n (ax (q1.map (·.1.1))) rfl hoa _ (some ⟨w6.heap.size+1,0,none⟩) 1 1 [.int .i64 lev,.int .i64 n] rfl hr8 (fun v hv=>dq1 [(lev,n)] v (by simpa [ax] using hv)) (F.n+1) (ax (q1.map (·.1.1)++[(lev,n)])) rfl (by simp[ax]) (by have:=HFN.out;unfold maxLen;omega) (by have:=HFN.out;omega) ?_);intro A4 c4 w8 p1 p2 p3 p4 p5;have hm8:=HM8.out;have cF:Chg (blk F) ((w6.alloc (.cells #[.int .i64 lev,.int .i64 n,.pointer (some ⟨f,0,none⟩)] 173)).alloc (.cells #[.int .i64 lev,.int .i64 n] 170)) w8:=Chg.pz p2 fun b e=>lq.2 e;have hbx8:=hm8.bx.chg cF (fun hm=>dx1 hm8.oa hm8.bx (by decide) (lq.1 hm));have hbh9:=HBH.out.chg cF (fun hm=>by have:=(HL7.out _ (iq.2 (.inr (.inr (.inr (.inr (.inr (.inl hm)))))))).2;omega);have y1:w8.cell? ⟨w.heap.size+1+1+1+1+1,1,none⟩=some (.slice F.a F.n F.c):=hbx8.cell 1;have z1:w8.frozen? ⟨w.heap.size+1+1+1+1+1,1,none⟩=false:=hbx8.free 1;have hm9:=hm8.addF HH.out p1 p2 p5;have c5:Chg [w.heap.size+5] w8 (w8.setCell ⟨w.heap.size+1+1+1+1+1,1,none⟩ (.slice A4 (F.n+1) c4)):=(Chg.refl _ _).setCell _ (.inl (by simp));have hbh10:=hbh9.chg c5 (by have:=HM.out.way.c.size;have:=HM.out.bx.lt;have:=HL7.out _ (iq.2 (.inr (.inl rfl)));simp;omega);have v0:=hbh10.c0;have v1:=hbh10.c1;have v2:=hbh10.c2;have tt:(w8.setCell ⟨w.heap.size+1+1+1+1+1,1,none⟩ (.slice A4 (F.n+1) c4)).cell? ⟨w3.heap.size,0,none⟩=some (.slice T.a T.n T.c):=hm9.bt.cell 0;have hbC:=(Below.refl (w8.setCell ⟨w.heap.size+1+1+1+1+1,1,none⟩ (.slice A4 (F.n+1) c4)).heap.size (w8.setCell ⟨w.heap.size+1+1+1+1+1,1,none⟩ (.slice A4 (F.n+1) c4))).alloc l_ (.cells #[.int .i64 lev,.int .i64 n,.pointer (some ⟨f,0,none⟩)] 173);have hbg:=BoxO.new (w8.setCell ⟨w.heap.size+1+1+1+1+1,1,none⟩ (.slice A4 (F.n+1) c4)) #[.int .i64 lev,.int .i64 n,.pointer (some ⟨f,0,none⟩)] 173;rw[show (w8.setCell ⟨w.heap.size+1+1+1+1+1,1,none⟩ (.slice A4 (F.n+1) c4)).heap.size=w8.heap.size from by simp]at hbg;have hm10:=hm9.below hbC;obtain⟨i1,hi1,hy0,hy1,hy2⟩:=info_parts ay2;have hTn:T.n=q0.length+q1.length:=by
    have:=hm10.ot.1;rw[qy,e_]at this;omega
   have hq0l:q0.length≤1000:=by
    rw[HQ0.out];have h1:=ay_ (fun x:Tq=>!decide (x.1.1.2∈inn)) Y.q;have h2:Y.q.length=V.tabs.length:=by rw[←HQ.out,az_]
    omega
   have HTN2:Hid (T.n≤200000):=H_ (by have:=HPL.out.2.1;omega);have hr10:=gx3 hbg rfl;have hot:=hm10.ot;have hAW2:=hm10.way.c.size;have HM10:=H_ hm10;clear hm10 hTn hq0l hbC hm9 hbh9 hbh10 c5 cF hbx8 hm8 p1 p2 p3 p4 p5 HM8 HBH hbg x1 u0 u1 hr8 hoa hi0 hz0 hz1 hz2 hAW
   gi_wp2_with (gi_at_builtin;refine iy ?_)
   refine gz (qx1 rfl (.tmp 48) (.tmp 50) _ rfl w.heap.size 173 i1 _ 3 24 Tryz.underlying141 hi1 hy0 hy1 hy2 rfl (by omega) hAW2 (.slice T.a T.n T.c) T.n (hcells (q0++q1)) rfl hot _ (some ⟨w8.heap.size,0,none⟩) 1 1 [.int .i64 lev,.int .i64 n,.pointer (some ⟨f,0,none⟩)] rfl hr10 (fun v hv=>rj1 [(((lev,n),Tb.rows (Ck.of l x)),f)] v (by simpa [hcells] using hv)) (T.n+1) (hcells (q0++(q1++[(((lev,n),Tb.rows (Ck.of l x)),f)]))) rfl (by simp[hcells]) (by have:=HTN2.out;unfold maxLen;omega) (by have:=HTN2.out;omega) ?_);intro A5 c5 w10 p1 p2 p3 p4 p5;have hm10:=HM10.out;have cT:Chg (blk T) ((w8.setCell ⟨w.heap.size+1+1+1+1+1,1,none⟩ (.slice A4 (F.n+1) c4)).alloc (.cells #[.int .i64 lev,.int .i64 n,.pointer (some ⟨f,0,none⟩)] 173)) w10:=Chg.pz p2 fun b e=>lq.2 e;have hbt10:=hm10.bt.chg cT (fun hm=>dx1 hm10.ot hm10.bt (by decide) (lq.1 hm));have g0:=hbt10.c0;have g1:=hbt10.free 0;have hm11:=hm10.addT (x:=(((lev,n),Tb.rows (Ck.of l x)),f)) HH.out p1 p2 p5;have hend:ik3 W5.heap.size (fun W W'=>W'.heap[w3.heap.size+1]?=W.heap[w3.heap.size+1]?∧W'.heap[w3.heap.size+1+1]?=W.heap[w3.heap.size+1+1]?)
     (fun pre W=>(pre=[]∧W=W5)∨∃r S1 X1 F T q1,MgK w X Y V w3.heap.size W5.heap.size r D dm dd lev N nn nc L lm lc q0 W X1 S1 F T (q1.map (·.1.1)) q1 q1∧pre.map (Ck.of l)=(Tb.cut 200 lm l).take pre.length∧St.writes lev (pre.map (Ck.of l)) S []=(S1,q1.map (·.1),0)∧S1.load≤S.load+3 *pre.length∧q1.length=pre.length)
     (fun c pre W=>c=.ret∧∃S1 X1 er,er≠0∧R=(S1,V,er)∧Way w X Y V W X1 S1∧BoxO W 26 (w.heap.size+4) [.int .i64 ((er:Nat):Int)]∧(W5.heap.size∉XY X1 Y∧W5.heap.size+1∉XY X1 Y)∧aj1 W5.heap.size W) (pre++[x]) W6 .normal { tmps:=#[],defers:=[] } (w10.setCell ⟨w3.heap.size,0,none⟩ (.slice A5 (T.n+1) c5)):=by
    refine⟨⟨hm11.la.1.trans HM.out.la.1.symm,hm11.la.2.trans HM.out.la.2.symm⟩,⟨?_,?_⟩,.inr ⟨r,S8,X8,⟨A4,F.n+1,c4⟩,⟨A5,T.n+1,c5⟩,q1++[(((lev,n),Tb.rows (Ck.of l x)),f)],?_,HCU.out,by rw[HWN2.out,aD_];rfl,by have:=HPL.out;rw[e_,ah_];omega,by rw[e_,e_,HPL.out.2.1];rfl⟩⟩
    ·exact Eq.trans hm11.fix.now.1.2.2.2.2.1 (Eq.symm HM.out.fix.now.1.2.2.2.2.1)
    ·exact Eq.trans hm11.fix.now.1.2.2.2.2.2 (Eq.symm HM.out.fix.now.1.2.2.2.2.2)
    ·rw[aD_]
     exact hm11
   have HEND:=H_ hend;clear hend hm11 hbt10 cT hm10 p1 p2 p3 p4 p5 HM10 hr10 hot hi1 hy0 hy1 hy2 hAW2 y1 z1 v0 v1 v2 tt
   gi_wp2
   exact HEND.out
  ·have e1:((er8:Int)==0)=false:=by simp;omega
   have hb4:=hm7.b4;have s4:(w6.alloc (.cells #[.int .i64 va,.int .i64 vb,.pointer vp] 173)).cell? ⟨w.heap.size+1+1+1+1,0,none⟩=some (.int .i64 0):=hb4.cell 0;have f4:(w6.alloc (.cells #[.int .i64 va,.int .i64 vb,.pointer vp] 173)).frozen? ⟨w.heap.size+1+1+1+1,0,none⟩=false:=hb4.free 0;have cc:Chg [w.heap.size+4] (w6.alloc (.cells #[.int .i64 va,.int .i64 vb,.pointer vp] 173)) ((w6.alloc (.cells #[.int .i64 va,.int .i64 vb,.pointer vp] 173)).setCell ⟨w.heap.size+1+1+1+1,0,none⟩ (.int .i64 (er8:Int))):=(Chg.refl _ _).setCell _ (.inl (by simp));have hno:=hm7.no;have hla:=hm7.la;have hll:=hla.at_.lt;have hla9:∀g,W5.heap.size≤g→g < W5.heap.size+2→g∉[w.heap.size+4]:=fun g h1 h2 hmm=>by
    have:=c_.1 hmm;have:=HBW.out.size;have:=HWS.out;have:=HS5.out;omega
   have hl9:nx3 W5.heap.size r ((w6.alloc (.cells #[.int .i64 va,.int .i64 vb,.pointer vp] 173)).setCell ⟨w.heap.size+1+1+1+1,0,none⟩ (.int .i64 (er8:Int))):=⟨(cc.block _ (by omega) (hla9 _ (by omega) (by omega))).trans hla.1,(cc.block _ hll (hla9 _ (by omega) (by omega))).trans hla.2⟩;have hfin:uk1 W5.heap.size W6 ((w6.alloc (.cells #[.int .i64 va,.int .i64 vb,.pointer vp] 173)).setCell ⟨w.heap.size+1+1+1+1,0,none⟩ (.int .i64 (er8:Int)))∧∃S1 X1 er,er≠0∧R=(S1,V,er)∧Way w X Y V ((w6.alloc (.cells #[.int .i64 va,.int .i64 vb,.pointer vp] 173)).setCell ⟨w.heap.size+1+1+1+1,0,none⟩ (.int .i64 (er8:Int))) X1 S1∧BoxO ((w6.alloc (.cells #[.int .i64 va,.int .i64 vb,.pointer vp] 173)).setCell ⟨w.heap.size+1+1+1+1,0,none⟩ (.int .i64 (er8:Int))) 26 (w.heap.size+4) [.int .i64 ((er:Nat):Int)]∧(W5.heap.size∉XY X1 Y∧W5.heap.size+1∉XY X1 Y)∧aj1 W5.heap.size ((w6.alloc (.cells #[.int .i64 va,.int .i64 vb,.pointer vp] 173)).setCell ⟨w.heap.size+1+1+1+1,0,none⟩ (.int .i64 (er8:Int))):=
    ⟨⟨hl9.1.trans HM.out.la.1.symm,hl9.2.trans HM.out.la.2.symm⟩,S8,X8,er8,h8,HRF.out h8,Way.scr HH.out hm7.way (G:=[w.heap.size+4]) (fun g hg=>by rw[c_.1 hg];exact⟨by omega,hno _ (iq.2 (.inl rfl))⟩) cc,hb4.store 0 (.int .i64 (er8:Int)),⟨hno _ (iq.2 (by simp)),hno _ (iq.2 (by simp))⟩,hl9.at_⟩
   have HF:=H_ hfin;clear hfin hl9 hla9 hll hla hno cc hb4 hbh hm7 hbA hm6 hok hs8 hc8 hf8 e8 h8 HWR HM HRF HWN HCU t5 t7
   gi_wp2
   exact⟨HF.out.1,rfl,HF.out.2⟩
 case done=>
  rintro D2 ys W9 hD hys hI hK hDe;obtain⟨r,S1,X1,F,T,q1,hm,hp1,hp2,hp3,hp4⟩:=hI.resolve_left (fun h=>by
   rw[h.2,hDe]at hK;exact absurd (w_.1 hK).1 (by omega))
  rw[hys]at hp2;have hR1:=HR.out.trans (St.lq3 (by rw[HLL.out];exact hp2));rw[show (q1.map (·.1)).map (·.1)=q1.map (·.1.1) from by simp[List.map_map,b5_]]at hR1;obtain⟨tb,htb⟩:=n_ (V.tabs.filter (fun t=>!decide (t.1.2∈inn))++q1.map (·.1));rw[←htb]at hR1;have hlt:=hm.lt;have hxl:=HW.out.2.2;have hbw:=HBW.out.size;have hws:=HWS.out;have hs5:=HS5.out;have hysl:ys.length≤lm:=by
   have h1:=congrArg List.length hys;rw[az_]at h1;have h2:=Tb.wk1 200 (by omega) lm l;rw[HLL.out]at h2;omega
  obtain⟨⟨b0,b1,b2,b3,bS,bM⟩,_⟩:=hm.fix.now;have hG2:∀g∈(w.heap.size+4)::W5.heap.size::XY X1 Y,g∈XY X1 Y∨w.heap.size≤g:=fun g hg=>by
   rcases g_.1 hg with q|q
   ·exact .inr (by omega)
   ·rcases g_.1 q with q|q
    ·exact .inr (by omega)
    ·exact .inl q
  have hno:∀{g},g∈mgG w.heap.size w3.heap.size W5.heap.size F T→g∉XY X1 Y:=fun hg=>hm.no _ hg;have hTG:∀g,(Value.slice T.a T.n T.c).ownBlock=some g→g∉(w.heap.size+4)::W5.heap.size::XY X1 Y:=fun g e hg=>by
   rcases g_.1 hg with q|q
   ·exact dx1 hm.ot hm.b4 (by decide) (by rw[e,q])
   ·rcases g_.1 q with q|q
    ·exact(hm.la.at_.own hm.ot).1 (by rw[e,q])
    ·exact hno (iq.2 (.inr (.inr (.inr (.inr (.inr (.inr (lq.2 e)))))))) q
  have hTq:(q0++q1).map (·.1)=tb:=by
   rw[htb,aD_,HQ0.out,←HQ.out,List.filter_map];rfl
  obtain⟨Tc,Tm,_⟩:=uj1 hm.ot;have FT9:qx ((w.heap.size+4)::W5.heap.size::XY X1 Y) W9 fun W=>ex1 W T (q0++q1) tb:=fun W' c=>by
   refine⟨hTq,(oq c (Row.own hm.ot) l_ (fun j _ a ha=>hTG _ (by rw[ha];rfl))).up c.size,Tc,Tm,kx1 hm.ot,fun p hp=>?_⟩
   rcases q_.1 hp with q|q
   ·rw[HQ0.out]at q
    exact(Way.tabs HH.out hm.way hG2 W' c).2.2.2.2.2 p (ab_.1 q).1
   ·refine(hm.fix W' (c.mono fun g hg=>.inl ?_)).2 p q
    rcases g_.1 hg with z|z
    ·rw[z]
     exact s_ _ (iq.2 (.inl rfl))
    ·rcases g_.1 z with z|z
     ·rw[z]
      exact s_ _ (iq.2 (by simp))
     ·exact k_ _ z
  have FS9:qx ((w.heap.size+4)::W5.heap.size::XY X1 Y) W9 fun W=>Its 0 W N nn nc next:=HNX.out.step hm.way.c (fun g hg=>by
   rcases hG2 g hg with z|z
   ·exact hm.way.f g z
   ·exact .inr z)
  have FB9:qx (XY X1 Y) W9 fun W=>(BoxO W 51 w.heap.size [.pointer (some ⟨Y.s,0,none⟩)]∧BoxO W 48 (w.heap.size+1) [.slice D dm dd]∧BoxO W 26 (w.heap.size+4) [.int .i64 0]∧W.heap[W5.heap.size]?=some (.deferred (some [])))∧BoxO W 141 w3.heap.size [.slice T.a T.n T.c]∧BoxO W 31 (w.heap.size+3) [.slice N nn nc]:=fun W' c=>by
   have h1:=hm.fix W' (c.mono fun g hg=>.inl (k_ _ hg));exact⟨⟨h1.1.1,h1.1.2.1,hm.b4.chg c (hno (iq.2 (.inl rfl))),(c.block _ (by have:=hm.la.at_.lt;omega) (hno (iq.2 (by simp)))).trans hm.la.1⟩,hm.bt.chg c (hno (iq.2 (by simp))),h1.1.2.2.2.1⟩
  have hTU:uv4 W9 X1 Y V 193 #[.pointer (some ⟨w3.heap.size,0,none⟩),.pointer (some ⟨w.heap.size,0,none⟩),.pointer (some ⟨w.heap.size+1+1+1,0,none⟩)] (fun w1 X2 P1 S2 M1 b w'=>SvAt w' X2 S2 { Y with P:=P1,T:=T,q:=q0++q1,A:=⟨N,nn,nc⟩ } (St.mergeD tb next { V with M:=M1,only:=b })∧Chg (XY X2 Y) w1 w'):=by
   intro w1 X2 P1 S2 M1 b e1 hc1 hf1 hP1 hs1;have hb:=FB9 w1 hc1;have hyl:Y.s < w.heap.size:=hxl _ (k_ _ (Yw.aj.2 (.inl rfl)));exact dw3 hs1 w3.heap.size w.heap.size (w.heap.size+1+1+1) T (q0++q1) tb N nn nc next hb.2.1 hb.1.1 hb.2.2 (by show w.heap.size≠Y.s;omega) (by show w.heap.size+1+1+1≠Y.s;omega)
    (FT9.step (hc1.mono fun g hg=>.inl (f_ _ (f_ _ hg))) (fun g hg=>(hf1 g hg).imp (fun z=>f_ _ (f_ _ z)) id))
    (FS9.step (hc1.mono fun g hg=>.inl (f_ _ (f_ _ hg))) (fun g hg=>(hf1 g hg).imp (fun z=>f_ _ (f_ _ z)) id))
  have hFl:F.n≤1000000:=by
   have:=hm.oa.1;have e:∀l:List (Int×Int),(ax l).length=l.length *2:=fun l=>by
    induction l with
    |nil=>rfl
    |cons a l ih=>unfold ax at *;rw[M_,e_,ih,r_];simp only[r_,R_];omega
   rw[e,az_]at this;omega
  have hrd9:Row W9.heap.size W9 D dm 1 (vk inn):=(oq hm.way.c HRD.out l_ (fun j _ a ha=>(hDx a ha).1)).up hm.way.c.size;have htn:=sx2 hm.way.at_ ⟨inn,q1.map (·.1.1),0,0,0,0,0⟩ D dm dd F.a F.n F.c (by omega) hFl hrd9 (Row.own hm.oa) (fun a ha hmm=>by
   have h1:=hDx a ha
   rcases hm.way.f _ hmm with z|z
   ·exact h1.1 z
   ·omega) (fun a ha=>hno (iq.2 (.inr (.inr (.inr (.inr (.inr (.inl (lq.2 (by rw[ha];rfl))))))))))
   hvf hc0 hnl 193 _ (St.mergeD tb next) (fun _ _=>rfl) hTU
  obtain⟨Tr,hTr⟩:=n_ (St.turn S1 V ⟨inn,q1.map (·.1.1),0,0,0,0,0⟩ (St.mergeD tb next));have hrl:Tr.1.load≤S1.load:=by rw[hTr];exact uj2 _ _ _ _
  rw[←hTr]at htn hR1;unfold Ed.val at htn;simp only[b9_]at htn;have t5:=b0.c0;have y0:W9.cell? ⟨w.heap.size+1+1+1+1+1,0,none⟩=some (.slice D dm dd):=hm.bx.cell 0;have y1:W9.cell? ⟨w.heap.size+1+1+1+1+1,1,none⟩=some (.slice F.a F.n F.c):=hm.bx.cell 1;have y2:W9.cell? ⟨w.heap.size+1+1+1+1+1,2,none⟩=some (.int .i64 0):=hm.bx.cell 2;have y3:W9.cell? ⟨w.heap.size+1+1+1+1+1,3,none⟩=some (.int .u64 0):=hm.bx.cell 3;have y4:W9.cell? ⟨w.heap.size+1+1+1+1+1,4,none⟩=some (.int .u64 0):=hm.bx.cell 4;have y5:W9.cell? ⟨w.heap.size+1+1+1+1+1,5,none⟩=some (.int .u64 0):=hm.bx.cell 5;have y6:W9.cell? ⟨w.heap.size+1+1+1+1+1,6,none⟩=some (.int .u64 0):=hm.bx.cell 6;have HTN:=H_ htn;have HR1:=H_ hR1;have HM:=H_ hm;have HFX:=H_ (d_ FT9 (d_ FS9 FB9));have HRL9:Hid (Tr.1.load≤1000000000000):=H_ (by omega);have HDE:=H_ hDe;have HNO:Hid (w.heap.size+4∉XY X1 Y∧W5.heap.size∉XY X1 Y):=H_ ⟨hno (iq.2 (.inl rfl)),hno (iq.2 (by simp))⟩;clear htn hR1 hm FT9 FS9 FB9 hrl hTU hrd9 hFl Tc Tm hTq hTG hno hG2 b0 b1 b2 b3 bS bM hysl hlt hxl hbw hws hs5 hTr hp1 hp2 hp3 hp4 hys hI hD hDe hst htb hK;refine hKq _ _ ?_;refine wpIn_wide.2 ?_;clear hKq;go_wp2_with fail
  with_reducible refine HTN.out.mono ?_
  rintro e w10 hpost;obtain⟨rfl,X2,Y2,hE⟩:e=.returned (.int .i64 (Tr.2.2:Int))∧∃X2 Y2,MgE w X Y W5.heap.size D dm dd w10 Tr.1 Tr.2.1 X2 Y2:=by
   obtain⟨he,w1,X2,P1,S2,M1,b,e1,c1,f1,p1,h1,hor⟩:=hpost;have hm:=HM.out;obtain⟨FT9,FS9,FB9⟩:=HFX.out;have hlt:=hm.lt;have hbw:=HBW.out.size;have hxl:=HW.out.2.2;have c1':Chg ((w.heap.size+4)::W5.heap.size::XY X1 Y) W9 w1:=c1.mono fun g hg=>.inl (f_ _ (f_ _ hg));have f1':∀g∈(w.heap.size+4)::W5.heap.size::XY X2 Y,g∈(w.heap.size+4)::W5.heap.size::XY X1 Y∨W9.heap.size≤g:=fun g hg=>by
    rcases g_.1 hg with q|q
    ·exact .inl (by rw[q];exact m_)
    ·rcases g_.1 q with q|q
     ·exact .inl (by rw[q];exact f_ _ m_)
     ·exact(f1 g q).imp (fun q=>f_ _ (f_ _ q)) id
   have hcw:=hm.way.c.trans c1 hm.way.f;have hfw:∀g∈XY X2 Y,g∈XY X Y∨w.heap.size≤g:=fun g hg=>by
    rcases f1 g hg with q|q
    ·exact hm.way.f g q
    ·exact .inr (h_ hm.way.c.size q)
   have h4:=hm.b4.lt;have h5:=hm.la.at_.lt;have hlb:w.heap.size+4 < W5.heap.size:=by have:=HS5.out;have:=HWS.out;omega
   have hno:(w.heap.size+4)∉XY X2 Y∧W5.heap.size∉XY X2 Y:=⟨fun hmm=>(f1 _ hmm).elim HNO.out.1 (by omega),fun hmm=>(f1 _ hmm).elim HNO.out.2 (by omega)⟩;have hpb:∀(M:Gs) (hr:Row w1.heap.size w1 P1.a P1.n 2 (ax M.v.files)),∀j,j < (ax M.v.files).length→∀a,P1.a=some a→a.block≠w.heap.size+4∧a.block≠W5.heap.size:=fun M hr j hj a ha=>by
    rcases p1 with p1|p1
    ·have hr0:=HH.out.row.row
     have l1:=hr.len;have l2:=hr0.len;rw[p1]at l1 ha;obtain⟨a',e,q1,_⟩:=hr0.cell j (by omega);rw[ha]at e;injection e with e;subst e;omega
    ·have:=p1 a ha
     omega
   rcases hor with ⟨rfl,z1,z2⟩|⟨⟨k1,k2⟩,z1,z2⟩
   ·rw[z1,z2]
    exact⟨he,X2,{ Y with P:=P1 },e1.trans hm.way.d,rfl,h1,hcw,hfw,hno,hlb,(HH.out.tabs.step hm.way.c (fun g hg=>by
     rcases g_.1 hg with q|q
     ·exact .inr (by omega)
     ·rcases g_.1 q with q|q
      ·exact .inr (by omega)
      ·exact hm.way.f g q)).step c1' f1',(HH.out.st.step hm.way.c (fun g hg=>by
     rcases g_.1 hg with q|q
     ·exact .inr (by omega)
     ·rcases g_.1 q with q|q
      ·exact .inr (by omega)
      ·exact hm.way.f g q)).step c1' f1',hpb M1 h1.row.row,(FB9.step c1 f1).mono fun _ hq=>hq.1⟩
   ·rw[z1,z2]
    have c2':Chg ((w.heap.size+4)::W5.heap.size::XY X2 Y) w1 w10:=k2.mono fun g hg=>.inl (f_ _ (f_ _ hg));exact⟨he,X2,{ Y with P:=P1,T:=T,q:=q0++q1,A:=⟨N,nn,nc⟩ },e1.trans hm.way.d,rfl,k1,hcw.trans k2 hfw,hfw,hno,hlb,(FT9.step c1' f1').step c2' (fun g hg=>.inl hg),(FS9.step c1' f1').step c2' (fun g hg=>.inl hg),hpb M1 h1.row.row,((FB9.step c1 f1).step k2 (fun g hg=>.inl hg)).mono fun _ hq=>hq.1⟩
  clear hpost HTN HFX HM HNO t5 y0 y1 y2 y3 y4 y5 y6;have HE:=H_ hE;have i0:=hE.bx.now.2.1.c0;obtain⟨er,her⟩:=n_ Tr.2.2;rw[←her];have HER:=H_ her;clear hE her;go_wp2
  go_loopw [58] (fun i wr=>∃j:Nat,j≤dm∧i=.int .i64 (j:Int)∧MgD w X Y W5.heap.size D dm dd inn Tr Y2 j wr) (fun i _=>dm - (intOf i).toNat)
  case atStart=>exact⟨0,t_ _,rfl,Tr.1,X2,by simp[St.drops],HE.out⟩
  case round=>
   obtain⟨j,hj,rfl,S3,X3,HS3,HE3⟩:=hrel;replace HS3:=H_ HS3;replace HE3:=H_ HE3;clear i0 HE
   by_cases hlt:j < dm
   ·have hrw:=(oq HE3.out.c HRD.out l_ (fun j _ a ha=>(hDx a ha).1)).up HE3.out.c.size
    obtain⟨a,hl,hda,hba,hc⟩:=hrw.int_ hlt;have hnb:=hin _ (v_ hl);have htk:inn.take (j+1)=inn.take j++[inn[j]]:=o_ hl;generalize inn[j]=nj at *;have hji:(j:Int) < (dm:Int):=by omega
    by_cases he:er=0
    ·have e1:((er:Int)==0)=true:=by simp[he]
     have h0:Tr.2.2=0:=HER.out.symm.trans he;have hS4:(S3.remove (Mn.name Mn.kTab nj)).1=if Tr.2.2=0 then St.drops (inn.take (j+1)) Tr.1 else Tr.1:=by
      rw[HS3.out,if_pos h0,if_pos h0,htk,St.ww2];rfl
     have hld3:S3.load≤1000000001000:=by
      rw[HS3.out,if_pos h0];have h1:=St.ex2 (inn.take j) Tr.1;have h2:=HRL9.out;rw[u_]at h1;omega
     have hkc:∀W',(∃S4 X4,MgE w X Y W5.heap.size D dm dd W' S4 Tr.2.1 X4 Y2)→W'.cell? ⟨w.heap.size,0,none⟩=some (.pointer (some ⟨Y.s,0,none⟩))∧W'.cell? ⟨Y.s,0,none⟩=some (.pointer (some ⟨X.d,0,none⟩)):=fun W' ⟨S4,X4,h4⟩=>by
      have q:=h4.at_.box.cell 0;rw[h4.s,h4.d]at q;exact⟨h4.bx.now.1.cell 0,q⟩
     have hnm:=fun W' (hb:Below wr.heap.size wr W')=>name_any (str Mn.kTab) (by rw[kz];decide) nj (by omega) W' (HE3.out.below hb).at_.dm.env;simp only[nz]at hnm;rw[show str Mn.kTab=({ data:=#[116,97,98] }:ByteArray) from rfl]at hnm;have hrm:∀W',Below wr.heap.size wr W'→Calls Tryz.prog 26 #[.pointer (some ⟨X.d,0,none⟩),.string (str (Mn.name Mn.kTab nj))] W' fun e w'=>(∃u:Nat,e=.returned (.int .i64 (u:Int)))∧∃X4,MgE w X Y W5.heap.size D dm dd w' (S3.remove (Mn.name Mn.kTab nj)).1 Tr.2.1 X4 Y2:=fun W' hb=>by
      have h4:=HE3.out.below hb;have hrm:=(Acc.start (F:=[]) h4.at_.dm).remove (str (Mn.name Mn.kTab nj)) (by rw[kz];have:=pj1 Mn.kTab nj;unfold maxLen;omega) (by omega);rw[nz,h4.d]at hrm;exact hrm.mono fun e w' ⟨he,Xq,hq⟩=>⟨⟨_,he⟩,h4.disk hq.updM⟩
     have hcc:wr.cell? (a.add j)=some (.int .i64 nj):=hc;have i1:=HE3.out.bx.now.2.1.cell 0;have HKC:=H_ hkc;have HNM:=H_ hnm;have HRM:=H_ hrm;have HS4:=H_ hS4;have HDA:=H_ hda;clear hkc hnm hrm hS4 hrw hc htk hld3 hl hba i1 HS3 he h0;subst hda;go_wp2_with fail;refine hy5 ?_;refine wp_region_held_drew (S:=fun w'=>∃S4 X4,MgE w X Y W5.heap.size (some a) dm dd w' S4 Tr.2.1 X4 Y2) rfl ⟨S3,X3,HE3.out.below (ak b0_)⟩ (fun hSw=>?_);refine w_v 0 hSw ?_ (k:=kz14);go_simp;refine w_v 1 hSw ?_ (k:=kz14);go_simp;refine w_v 2 hSw ?_ (k:=kz14);go_simp;refine w_v 3 hSw ?_ (k:=kz14);go_simp;refine w_v 4 hSw ?_ (k:=kz14);go_simp;refine w_r 5 fun K hK=>?_;go_simp
     with_reducible refine(HNM.out _ (ak b0_)).mono ?_
     rintro e w2 ⟨rfl,hb2⟩;have HB2:=H_ (az (ak (Below.refl wr.heap.size wr)) hb2);go_simp;refine hK.out _ _ ⟨S3,X3,HE3.out.below HB2.out⟩ ?_;clear hSw hK K;intro hSw;go_simp;refine w_r 6 fun K hK=>?_;go_simp
     with_reducible refine(HRM.out _ HB2.out).mono ?_
     rintro e w4 ⟨⟨u,rfl⟩,X4,h4⟩;replace h4:=H_ h4;go_simp;refine hK.out _ _ ⟨_,X4,h4.out⟩ ?_;clear hSw hK K;intro hSw;go_simp;refine wpAnyH_done (by kernel_rfl) ?_ _;have HF:Hid (MgD w X Y W5.heap.size (some a) dm dd inn Tr Y2 (j+1) w4):=H_ ⟨_,X4,HS4.out,h4.out⟩;clear HKC HNM HRM hSw h4 HS4 HB2;simp only[NoP];go_wp2;go_roundw
     case rel=>exact⟨j+1,by omega,by go_num,HF.out⟩
     case measure=>simp[intOf];omega
    ·have e1:((er:Int)==0)=false:=by simp;omega
     have hS4:S3=if Tr.2.2=0 then St.drops (inn.take (j+1)) Tr.1 else Tr.1:=by
      rw[HS3.out,if_neg (by rw[←HER.out];exact he),if_neg (by rw[←HER.out];exact he)]
     have HF:Hid (MgD w X Y W5.heap.size D dm dd inn Tr Y2 (j+1) wr):=H_ ⟨_,X3,hS4,HE3.out⟩;clear hS4 hrw htk hl hba HS3 he HE3;subst hda;go_wp2;go_roundw
     case rel=>exact⟨j+1,by omega,by go_num,HF.out⟩
     case measure=>simp[intOf];omega
   ·obtain rfl:j=dm:=by omega
    have hji:((j:Int) < (j:Int))=False:=eq_false (by omega);have hl9:inn.take j=inn:=i_ (by
     have:=HRD.out.len;unfold vk at this;rw[az_]at this;omega)
    have hp:=MgE.post HH.out HE3.out (.int .i64 (er:Int));have hb:=HE3.out.bx.now;have s4:wr.cell? ⟨w.heap.size+1+1+1+1,0,none⟩=some (.int .i64 0):=hb.2.2.1.cell 0;have f4:wr.frozen? ⟨w.heap.size+1+1+1+1,0,none⟩=false:=hb.2.2.1.free 0;have hde:(wr.setCell ⟨w.heap.size+1+1+1+1,0,none⟩ (.int .i64 (er:Int))).heap[D2]?=some (.deferred (some [])):=by
     rw[HDE.out];exact(((Chg.refl [w.heap.size+4] wr).setCell (p:=⟨w.heap.size+1+1+1+1,0,none⟩) (.int .i64 (er:Int)) (.inl (by simp))).block _ (w_.1 hb.2.2.2).1 (fun hm=>by have:=c_.1 hm;have:=HE3.out.lb;omega)).trans hb.2.2.2
    have hR9:R=(S3,Tr.2.1,er):=by
     rw[HR1.out,HS3.out,hl9,←HER.out];split
     ·rename_i h0;rw[h0]
     ·rw[HER.out]
    have hcell:=hp.2;rw[←HDE.out]at hcell hp;have HP9:=H_ hp.1;have HR9:=H_ hR9;have HD9:=H_ hde;clear hp hb hR9 hde hl9 HS3 HE3;go_wp2;refine⟨by simp,.inl ⟨_,_,rfl,run_takeDeferred HD9.out,?_⟩⟩;refine⟨.int .i64 (er:Int),by simp[results,go_sem,hcell],?_⟩;rw[HR9.out];exact⟨rfl,HP9.out⟩
 case stop=>
  rintro D2 c2 pre W9 hD _ ⟨rfl,S1,X1,er,h0,hR1,hw,hb4,hno,hla⟩ hK hDe;have hcd:Chg [D2] W9 (W9.putObj D2 (.deferred none)):=⟨rfl,rfl,rfl,by simp,fun y _ hy=>I_ (fun e=>hy (by simp[e]))⟩;have hbw:=HBW.out.size;have hs5:=HS5.out;have hws:=HWS.out;have hw2:=Way.scr HH.out hw (G:=[D2]) (fun g hg=>by rw[c_.1 hg,hDe];exact⟨hbw,hno.1⟩) hcd;have hcell:(W9.putObj D2 (.deferred none)).cell? ⟨w.heap.size+1+1+1+1,0,none⟩=some (.int .i64 (er:Int)):=(W_ (I_ (show w.heap.size+4≠D2 by omega))).trans (hb4.cell 0);have HFIN:=H_ hw2.upd;have HR1:=H_ hR1;have HK:=H_ hK;clear hw2 hcd hR1 hK hw hb4 hno hla h0 hbw hs5 hws
  gi_wp2
  refine⟨by simp,.inl ⟨_,_,rfl,run_takeDeferred HK.out,?_⟩⟩;refine⟨.int .i64 (er:Int),by simp[results,go_sem,hcell],?_⟩;rw[HR1.out];exact⟨rfl,HFIN.out⟩
end
section
open Go Go.RowKit Go.Lib Go.Shelf
variable {w w1 w2:World} {X X1 X2:Dw} {S S1 S2:Sd} {Y Y1 Y2:Yw} {V V1 V2:Sv}
theorem Mg.wv3:∀(f:Nat) (ls:List (List It)) (out:List It),(Mg.run f ls out).length≤out.length+f
 |0,_,out=>x_ _
 |f+1,ls,out=>by
  unfold Mg.run
  cases Mg.sel ls ls.length with
  |none=>exact am_ _ _
  |some j=>
   simp only
   cases ls.getD j [] with
   |nil=>exact am_ _ _
   |cons x r=>
    have h1:=Mg.wv3 f (ls.set j r) (Mg.put out x);have h2:=Mg.ik out x;exact h_ h1 (by omega)
theorem Mg.kq3 (ls:List (List It)):(Mg.rows ls).length≤Mg.tot ls:=by
 have:=Mg.wv3 (Mg.tot ls) ls [];simpa [Mg.rows] using this
def St.pl (V:Sv) (v:Nat):List It:=fz1 (clean (Mg.rows (V.tabs.map fun t=>t.2.flatten))) v
structure hz5 (V:Sv) (v:Nat):Prop where
 st:V.st.length≤2000
 fl:V.M.v.files.length≤40
 ct:V.M.count≤1000000000
 nm:V.M.name.length≤1000
 tl:V.tabs.length≤1000
 num:∀t∈V.tabs,0≤t.1.2∧t.1.2≤2147483648
 big:∀t∈V.tabs,t.2.length≤1000000∧t.2.flatten.length≤1000000
 tot:Mg.tot (V.tabs.map fun t=>t.2.flatten)≤100000
 len:(St.pl V v).length≤100000
 fit:∀x∈St.pl V v,x.fit
 good:∀r∈Tb.cut 200 (St.pl V v).length (St.pl V v),Tb.good r=true
theorem kz29 {P S a oi v} (h:Hv P S a oi v:=by intro w hSw;(have hTrue:=hSw);go_simp;try (with_reducible rfl)):Hv P S a oi v:=h
theorem yv2 (h:SvAt w X S Y V) (v:Nat) (hgd:Tb.good (St.live V)=true) (hfit:∀x∈V.mem,x.fit) (hml:V.mem.length≤400000) (hsl:V.st.length≤2000) (hvf:V.M.v.files.length≤40) (hlog:1≤V.M.v.log∧V.M.v.log≤1073741824) (hc0:V.M.count≤1000000000) (hnl:V.M.name.length≤1000) (hld:S.load≤50000000000)
  (hok:(St.flush S V).2.2=0→hz5 (St.flush S V).2.1 v∧(St.flush S V).1.load≤100000000000):
  Calls Tryz.prog 69 #[.pointer (some ⟨Y.s,0,none⟩),.int .u64 (v:Int)] w (cv1 X Y w (St.pk1 S V v)):=by
 have hfl:=pj3 h hgd hfit hml hsl hvf hlog hc0 hnl (by omega);obtain⟨R,hR⟩:=n_ (St.pk1 S V v);rw[←hR];unfold St.pk1 at hR;obtain⟨a,ha⟩:=n_ (St.flush S V);rw[←ha]at hfl hR hok;obtain⟨S1,V1,er⟩:=a;unfold cv1 at hfl;simp only at hfl hR hok;have HFL:=H_ hfl;have HR:=H_ hR;have HOK:=H_ hok;clear hfl hR hok ha h;go_enter Tryz.func69,Tryz.ntmps69;go_wp2_with fail
 with_reducible refine HFL.out.mono ?_
 rintro e w1 ⟨rfl,X1,Y1,e0,es1,h1,c1,f1⟩
 by_cases he:er=0
 ·subst he
  have hR:=HR.out;rw[if_neg (by simp)]at hR;obtain⟨hm,hld1⟩:=HOK.out rfl;have c5:=h1.box.cell 5;rw[es1]at c5;simp only[Yw.cells,gE0,gE1]at c5;have hal:=h1.alen;have hpu:=jx2 Y1.A.a Y1.A.n Y1.A.c V1.st v w1 (by rw[hal];have:=hm.st;omega) h1.st.now.row;have HPU:=H_ hpu;have H1:=H_ h1;have HC:=H_ (d_ e0 (d_ es1 (d_ c1 f1)));have HM:=H_ (d_ hm hld1);have HR1:=H_ hR;have HAL:=H_ hal;clear hpu h1 e0 c1 f1 hm hld1 hR hal HFL HOK HR;go_wp2_with fail
  with_reducible refine HPU.out.mono ?_
  rintro e w2 ⟨A6,k6,rfl,hk6,hi6,hb2⟩;have h2:=H1.out.below hb2;have c5b:=h2.box.cell 5;rw[HC.out.2.1]at c5b;simp only[Yw.cells,gE0,gE1]at c5b
  by_cases hl:k6=Y1.A.n
  ·have e2:((k6:Int)==(Y1.A.n:Int))=true:=by simp[hl]
   have hR:=HR1.out;rw[if_pos (by rw[←hk6,hl,HAL.out])]at hR;have HZ:Hid (cv1 X Y w R (.returned (.int .i64 0)) w2):=H_ (by
    rw[hR];exact⟨rfl,rq1.trans HC.out.1 HC.out.2.1 HC.out.2.2.1 HC.out.2.2.2 (rq1.same H1.out hb2)⟩)
   clear hR hl hi6 hk6 hb2 h2 HPU H1 HC HM HR1 HAL;go_wp2;go_ret;exact HZ.out
  ·have e2:((k6:Int)==(Y1.A.n:Int))=false:=by simp;omega
   have hR:=HR1.out;rw[if_neg (by rw[←hk6,←HAL.out];exact hl)]at hR;obtain⟨hm,hld1⟩:=HM.out;have hxl:=h2.lt;obtain⟨hq,hrow,hTc,hTm,hTn,hTb⟩:=h2.tabs.now;have htn:=h2.tlen;have hbA:Below w2.heap.size w2 w2.drew:=ak b0_;have hkc:∀W',Below w2.heap.size w2 W'→W'.cell? ⟨Y.s,4,none⟩=some (.slice Y1.T.a Y1.T.n Y1.T.c):=fun W' hb=>by
    have q:=(h2.below hb).box.cell 4;rw[HC.out.2.1]at q;exact q
   have hsp:=HC.out.2.1;have hall:=fun W' (hb:Below w2.heap.size w2 W')=>nw3 Y1.s Y1.T.n Y1.T.c Y1.T.a Y1.q W' (by rw[hsp];exact hkc W' hb) ((hrow.below hb).up hb.size) (by rw[htn];have:=hm.tl;omega);rw[hsp]at hall;have hrows:=fun W' (hb:Below w2.heap.size w2 W')=>ex4 Y1.T.a Y1.T.n Y1.T.c Y1.q W' ((hrow.below hb).up hb.size) (fun p hp=>(hTb p hp).below hb) (by rw[htn];have:=hm.tl;omega) (fun p hp=>hm.big p.1 (by rw[←hq];exact List.mem_map_of_mem hp));obtain⟨ls,hls⟩:=n_ (V1.tabs.map fun t=>t.2.flatten);have hls2:(Y1.q.map fun p=>p.1.2.flatten)=ls:=by rw[hls,←hq,List.map_map];rfl
   have hpl:St.pl V1 v=fz1 (clean (Mg.rows ls)) v:=by rw[hls];rfl
   rw[hls2]at hrows;have htot:=hm.tot;rw[←hls]at htot hR;have hmg:∀W' A3 k3 c3 A7 k7 c7,Below w2.heap.size w2 W'→k3=Y1.q.length→W'.ownsRow w2.heap.size 3 1 (.slice A3 k3 c3) k3 (Y1.q.map fun p=>.int .i64 p.1.1.2)→k7=(fz1 (clean (Mg.rows ls)) v).length→W'.ownsRow w2.heap.size 36 5 (.slice A7 k7 c7) k7 (itc (fz1 (clean (Mg.rows ls)) v))→
     Calls Tryz.prog 103 #[.pointer (some ⟨Y.s,0,none⟩),.slice A3 k3 c3,.int .i64 3,.slice A7 k7 k7,.slice A6 k6 k6] W' (cv1 X Y w R):=by
    intro W' A3 k3 c3 A7 k7 c7 hb hk3 ho3 hk7 ho7;have h5:=h2.below hb;rw[show (Y1.q.map fun p=>Value.int .i64 p.1.1.2)=vk (V1.tabs.map fun t=>t.1.2) from by rw[←hq];simp[vk,b5_]]at ho3;have hx1:=H1.out.lt;have hql:Y1.q.length=V1.tabs.length:=by rw[←hq,az_]
    have hm2:=sz3 h5 A3 k3 c3 (V1.tabs.map fun t=>t.1.2) 3 A7 k7 k7 (fz1 (clean (Mg.rows ls)) v) A6 k6 k6 (fz1 V1.st v) (by have:=hm.tl;omega) (Row.own ho3) (fun a ha=>by
     have q1:=(uj1 ho3).2.2 a ha;exact⟨fun hmm=>by have:=hxl _ hmm;omega,(ho3.lt a.block (by rw[ha];rfl)).2⟩) (fun n hn=>by
     obtain⟨t,ht,rfl⟩:=bc_.1 hn;exact hm.num t ht) (by rw[hk7,←hpl];exact hm.len) l_ (Row.own ho7) (fun a ha hmm=>by
     have q1:=(uj1 ho7).2.2 a ha;have:=hxl _ hmm;omega) (by rw[←hpl];exact hm.fit) (by rw[←hpl];exact hm.good) (fun W'' c=>⟨(oq c ((hi6.row.below hb).up hb.size) l_ (fun j _ a ha hmm=>by
      have q1:=hi6.low a ha;have:=hx1 _ hmm;omega)).up c.size,hi6.nc,hi6.cm,fun _ _=>t_ _⟩) hm.fl hm.tl hm.ct hm.nm hld1
    rw[hsp]at hm2;refine hm2.mono ?_;rintro e w' ⟨he,hu⟩;rw[hR];exact⟨he,rq1.trans HC.out.1 HC.out.2.1 (HC.out.2.2.1.trans (Chg.of_below (az hb2 hb) []) (fun g hg=>by cases hg)) HC.out.2.2.2 hu⟩
   have hlsl:ls.length≤1000:=by rw[hls,az_];exact hm.tl
   have HMG:=H_ hmg;have HLS:=H_ hlsl;have HALL:=H_ hall;have HROW:=H_ hrows;have HKC:=H_ hkc;have H2:=H_ (d_ h2 (d_ hxl hq));have HTOT:=H_ htot;have HPL:=H_ hpl;have HR2:=H_ hR;have HI6:=H_ (d_ hi6 (d_ hk6 hb2));clear hmg hlsl hall hrows hkc h2 hxl hq htot hpl hR hi6 hk6 hb2 hrow hTc hTm hTn hTb htn hls hls2 hm hld1 HPU HAL hl hsp;go_wp2_with fail;clear e2 c5b;refine wp_region_held_drew (S:=fun _=>True) rfl trivial (fun hSw=>?_);refine w_v 0 hSw ?_ (k:=kz29);go_simp;refine w_v 1 hSw ?_ (k:=kz29);go_simp;refine w_v 3 hSw ?_ (k:=kz29);go_simp;refine w_v 4 hSw ?_ (k:=kz29);go_simp;refine w_v 5 hSw ?_ (k:=kz29);go_simp;refine w_v 9 hSw ?_ (k:=kz29);go_simp;refine w_v 11 hSw ?_ (k:=kz29);go_simp;refine wpAnyH_ready (rs:=[2,6]) (by kernel_rfl) (by simp) ?_;refine AllReadyH.cons rfl (fun K hK=>?_) (AllReadyH.cons rfl (fun K hK=>?_) AllReadyH.nil)
   ·go_simp
    with_reducible refine(HALL.out _ hbA).mono ?_
    rintro e w3 ⟨A3,k3,c3,rfl,hk3,ho3,hb3⟩;have hbA:=az hbA hb3;replace ho3:Hid (w3.ownsRow w2.heap.size 3 1 (.slice A3 k3 c3) k3 (Y1.q.map fun p=>.int .i64 p.1.1.2)):=H_ ho3;replace hk3:=H_ hk3;go_simp;refine hK.out _ _ trivial ?_;clear hSw hK K;intro hSw;go_simp;refine w_r 6 fun K hK=>?_
    ·have q4:=HKC.out _ hbA
     go_simp;refine hK.out _ _ trivial ?_;clear hSw hK K;intro hSw;go_simp;refine w_r 7 fun K hK=>?_;go_simp
     with_reducible refine(HROW.out _ hbA).mono ?_
     rintro e w4 ⟨A4,k4,c4,vs,rfl,hk4,ho4,hr4,hb4⟩;have hbA:=az hbA hb4;have HH3:=H_ (own_below ho3.out hb4);replace hk4:=H_ hk4;have HI4:=H_ (d_ (hr4.rows ho4) (kx1 ho4));clear ho4 hr4;go_simp;refine hK.out _ _ trivial ?_;clear hSw hK K;intro hSw;go_simp;refine w_r 8 fun K hK=>?_;go_simp
     with_reducible refine(vq2 A4 k4 c4 ls _ (by rw[hk4.out];have:=HLS.out;omega) (by have:=HTOT.out;omega) HI4.out.2 HI4.out.1).mono ?_
     rintro e w5 ⟨A5,k5,c5',rfl,hk5,hi5,hb5⟩;have hbA:=az hbA hb5;have HH4:=H_ (own_below HH3.out hb5);replace hk5:=H_ hk5;replace hi5:=H_ hi5;go_simp;refine hK.out _ _ trivial ?_;clear hSw hK K;intro hSw;go_simp;refine w_r 10 fun K hK=>?_;go_simp
     with_reducible refine(zv1 A5 k5 c5' (Mg.rows ls) v _ (by rw[hk5.out];exact h_ (Mg.kq3 ls) (by have:=HTOT.out;omega)) hi5.out.row).mono ?_
     rintro e w6 ⟨A7,k7,c7,rfl,hk7,ho7,h71,h72,hb6⟩;have ho7':=H_ (own_base ho7 hbA.size);have hbA:=az hbA hb6;have HH5:=H_ (own_below HH4.out hb6);replace hk7:=H_ hk7;clear h71 h72 ho7;go_simp;refine hK.out _ _ trivial ?_;clear hSw hK K;intro hSw;go_simp;refine w_r 12 fun K hK=>?_;go_simp
     with_reducible refine(HMG.out w6 A3 k3 c3 A7 k7 c7 hbA hk3.out HH5.out hk7.out ho7'.out).mono ?_
     rintro e w7 hz7;have hz8:=hz7.1;subst hz8;replace hz7:=H_ hz7;go_simp;refine hK.out _ _ trivial ?_;clear hSw hK K;intro hSw;go_simp;refine w_v 13 hSw ?_ (k:=kz29);go_simp;refine wpAnyH_done (by kernel_rfl) ?_ _
     (clear HMG HALL HROW HKC HM;go_wp2;go_ret;exact hz7.out)
   ·have q4:=HKC.out _ hbA
    go_simp;refine hK.out _ _ trivial ?_;clear hSw hK K;intro hSw;go_simp;refine w_r 2 fun K hK=>?_
    ·go_simp
     with_reducible refine(HALL.out _ hbA).mono ?_
     rintro e w3 ⟨A3,k3,c3,rfl,hk3,ho3,hb3⟩;have hbA:=az hbA hb3;replace ho3:Hid (w3.ownsRow w2.heap.size 3 1 (.slice A3 k3 c3) k3 (Y1.q.map fun p=>.int .i64 p.1.1.2)):=H_ ho3;replace hk3:=H_ hk3;go_simp;refine hK.out _ _ trivial ?_;clear hSw hK K;intro hSw;go_simp;refine w_r 7 fun K hK=>?_;go_simp
     with_reducible refine(HROW.out _ hbA).mono ?_
     rintro e w4 ⟨A4,k4,c4,vs,rfl,hk4,ho4,hr4,hb4⟩;have hbA:=az hbA hb4;have HH3:=H_ (own_below ho3.out hb4);replace hk4:=H_ hk4;have HI4:=H_ (d_ (hr4.rows ho4) (kx1 ho4));clear ho4 hr4;go_simp;refine hK.out _ _ trivial ?_;clear hSw hK K;intro hSw;go_simp;refine w_r 8 fun K hK=>?_;go_simp
     with_reducible refine(vq2 A4 k4 c4 ls _ (by rw[hk4.out];have:=HLS.out;omega) (by have:=HTOT.out;omega) HI4.out.2 HI4.out.1).mono ?_
     rintro e w5 ⟨A5,k5,c5',rfl,hk5,hi5,hb5⟩;have hbA:=az hbA hb5;have HH4:=H_ (own_below HH3.out hb5);replace hk5:=H_ hk5;replace hi5:=H_ hi5;go_simp;refine hK.out _ _ trivial ?_;clear hSw hK K;intro hSw;go_simp;refine w_r 10 fun K hK=>?_;go_simp
     with_reducible refine(zv1 A5 k5 c5' (Mg.rows ls) v _ (by rw[hk5.out];exact h_ (Mg.kq3 ls) (by have:=HTOT.out;omega)) hi5.out.row).mono ?_
     rintro e w6 ⟨A7,k7,c7,rfl,hk7,ho7,h71,h72,hb6⟩;have ho7':=H_ (own_base ho7 hbA.size);have hbA:=az hbA hb6;have HH5:=H_ (own_below HH4.out hb6);replace hk7:=H_ hk7;clear h71 h72 ho7;go_simp;refine hK.out _ _ trivial ?_;clear hSw hK K;intro hSw;go_simp;refine w_r 12 fun K hK=>?_;go_simp
     with_reducible refine(HMG.out w6 A3 k3 c3 A7 k7 c7 hbA hk3.out HH5.out hk7.out ho7'.out).mono ?_
     rintro e w7 hz7;have hz8:=hz7.1;subst hz8;replace hz7:=H_ hz7;go_simp;refine hK.out _ _ trivial ?_;clear hSw hK K;intro hSw;go_simp;refine w_v 13 hSw ?_ (k:=kz29);go_simp;refine wpAnyH_done (by kernel_rfl) ?_ _
     (clear HMG HALL HROW HKC HM;go_wp2;go_ret;exact hz7.out)
 ·have e1:((er:Int)==0)=false:=by simp;omega
  have hR:=HR.out;rw[if_pos he]at hR;have HZ:Hid (cv1 X Y w R (.returned (.int .i64 (er:Int))) w1):=H_ (by rw[hR];exact⟨rfl,X1,Y1,e0,es1,h1,c1,f1⟩);clear hR he;go_wp2;go_ret;exact HZ.out
end
end Go.Proofs.YthjdpplgfdihoaaGreatDoor
