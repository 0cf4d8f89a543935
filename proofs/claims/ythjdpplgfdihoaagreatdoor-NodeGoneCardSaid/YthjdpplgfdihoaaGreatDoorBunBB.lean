/- Texts LawU, NodE, NodF, NodG, NodH, NodI in one. No conditions. -/
import Derived.Test.YthjdpplgfdihoaaGreatDoorBunAZ
import Derived.Test.YthjdpplgfdihoaaGreatDoorBunAY
import Derived.Test.YthjdpplgfdihoaaGreatDoorBunAX

set_option linter.unusedSimpArgs false
set_option linter.unusedVariables false
set_option maxRecDepth 100000
set_option maxHeartbeats 16000000
namespace Go.Proofs.YthjdpplgfdihoaaGreatDoor
section
open Go Go.RowKit Go.Lib Go.Shelf
variable {w w1 w2:World} {X X1 X2:Dw} {S S1 S2:Sd} {Y Y1 Y2:Yw} {V V1 V2:Sv}
end
section
open Go Go.RowKit Go.Lib Go.Shelf
attribute [local go_sem] Oper.semAt_some
variable {w w1 w2:World} {X X1 X2:Dw} {S S1 S2:Sd} {Y Y1 Y2:Yw} {V V1 V2:Sv} {nb now grace:Nat} {ni:Int}
def St.last (S:Sd) (V:Sv) (l:List It):Sd×Sv×Bool:=
 if joins V.st l=V.st then ((St.sync S V).1,(St.sync S V).2.1,(St.sync S V).2.2==0) else
 if (St.apply S V l).2.2≠0 then ((St.apply S V l).1,(St.apply S V l).2.1,false) else
 ((St.sync (St.apply S V l).1 (St.apply S V l).2.1).1,(St.sync (St.apply S V l).1 (St.apply S V l).2.1).2.1,(St.sync (St.apply S V l).1 (St.apply S V l).2.1).2.2==0)
theorem by2 {g:Nat} {b:Bool} (h:BoxO w 4 g [.bool b]):tq3 w [g]:=fun a ha v hv=>by
 unfold World.cell? at hv;rw[c_.1 ha,show w.heap[g]?=_ from h]at hv;simp only at hv;split at hv
 ·cases hv
 ·cases hq:a.off with
  |zero=>rw[hq]at hv;exact⟨b,by simpa using hv.symm⟩
  |succ k=>rw[hq]at hv;simp at hv
theorem St.qy2 (S:Sd) (V:Sv):(St.sync S V).2.1.tabs=V.tabs:=by
 unfold St.sync;split
 ·rfl
 ·split<;>rfl
theorem St.px3 (S:Sd) (V:Sv) (l:List It):(St.apply S V l).2.1.tabs=V.tabs:=by
 unfold St.apply;simp only
 repeat' split
 all_goals rfl
theorem ev5 (er:Nat):((er:Int)==0)=((er==0:Bool)):=by
 by_cases h:er=0
 ·subst h;rfl
 ·rw[beq_eq_false_iff_ne.2 h,beq_eq_false_iff_ne];omega
theorem az1.said {W w0:World} {g:Nat} (h:az1 X Y W w1 S1 V1 nb ni now grace) (hb:Below w0.heap.size w0 W) (ht:V1.tabs=[]) (hg0:w0.heap.size≤g) (hng:NG≤g) (hgn:g≠nb) (hgx:g∉XY X Y) (hbx:BoxO W 4 g [.bool false]) (v:Value):az1 X Y w0 (w1.setCell ⟨g,0,none⟩ v) S1 V1 nb ni now grace:=by
 obtain⟨X1,Y1,e,es,h1,c,f,na⟩:=h;have hx1:=hbx.chg c hgx;have hlt:=hbx.lt;have hgx1:g∉XY X1 Y1:=fun hm=>by
  rcases f g hm with q|q
  ·exact hgx q
  ·omega
 have hc1:Chg [g] w1 (w1.setCell ⟨g,0,none⟩ v):=(Chg.refl [g] w1).setCell _ (.inl (by simp));have h2:=h1.tick ht (by2 hx1) hc1 (fun x hx=>by rw[c_.1 hx];exact⟨hgx1,hng,hx1.lt,hgn⟩);exact⟨X1,Y1,e,es,h2,((Chg.of_below hb _).trans c (fun g hg=>.inl hg)).trans hc1 (fun x hx=>by rw[c_.1 hx];exact .inr hg0),fun x hx=>(f x hx).imp (fun z=>z) (h_ hb.size),na.imp (fun z=>z) (fun z a ha=>h_ hb.size (z a ha))⟩
theorem uq3 (h:NdAt w X S Y V nb ni now grace) (hN:Nrm V) (A:Option Addr) (n c:Nat) (l:List It) (hn:n≤1000) (hr:Row w.heap.size w A n 5 (itc l)) (hj:joins V.st l=V.st):
  Calls Tryz.prog 54 #[.pointer (some ⟨nb,0,none⟩),.slice A n c] w fun e w'=>e=.returned (.bool (St.last S V l).2.2)∧az1 X Y w w' (St.last S V l).1 (St.last S V l).2.1 nb ni now grace:=by
 have hb1:=b_ w (.cells #[.pointer (some ⟨nb,0,none⟩)] 25);have hb2:=hb1.alloc (by simp) (.cells #[.bool false] 4);have hx0:=(BoxO.new w #[.pointer (some ⟨nb,0,none⟩)] 25).alloc (.cells #[.bool false] 4);have hx1:=BoxO.new (w.alloc (.cells #[.pointer (some ⟨nb,0,none⟩)] 25)) #[.bool false] 4;rw[A_]at hx1;have h2:=h.below hb2;have hrl:=hr.uz;have hlt:=h.at_.lt;have hnl:=h.box.lt;have hbase:=h.at_.dm.env.base;obtain⟨W,hW⟩:=n_ ((w.alloc (.cells #[.pointer (some ⟨nb,0,none⟩)] 25)).alloc (.cells #[.bool false] 4));obtain⟨R,hR⟩:=n_ (St.last S V l);rw[←hR];unfold St.last at hR;rw[if_pos hj]at hR;rw[←hW]at hb2 hx0 hx1 h2;have k1:=h2.box.c1;have t2:=hx0.c0;have k1':=k1;have t2':=t2;rw[hW]at k1 t2;have hst:=dz1 h2.at_ (by have:=hN.len;omega);have HST:=H_ hst;have H2:=H_ h2;have HX:=H_ (d_ hx0 hx1);have HB:=H_ hb2;have HR:=H_ hR;have HROW:=H_ ((hr.below hb2).up hb2.size);have HM:=H_ (d_ hlt (d_ hnl hbase));have HJ:=H_ hj;have HAL:=H_ (h.at_.alen);clear hst h2 hx0 hx1 hb2 hb1 hR hr hlt hnl hbase h hj;go_enter Tryz.func54,Tryz.ntmps54;go_wp2_with fail;rw[←hW];have HW:=H_ hW;clear k1 t2 hW
 with_reducible refine HST.out.mono ?_
 rintro e w1 ⟨A1,c1,rfl,ho1,hb1⟩;obtain⟨A1',c1',hv,hcc1,hcm1,_⟩:=dw ho1;injection hv with q1 q2 q3;subst q1 q3;have hrow1:=Row.own ho1;have hjn:=oy2 A1 Y.A.n c1 V.st A n c l w1 (by have:=hN.len;have:=HAL.out;omega) hcc1 hcm1 hN.st hrow1 ((HROW.out.below hb1).up hb1.size);rw[HJ.out]at hjn;have HJN:=H_ hjn;have HR1:=H_ hrow1;have HB1:=H_ hb1;clear hjn hrow1 hb1 ho1 hcc1 hcm1 HST;go_wp2_with fail
 with_reducible refine HJN.out.mono ?_
 rintro e w2 ⟨A2,m2,rfl,hm2,hi2,hb2⟩;have hsm:=xv2 A1 Y.A.n c1 V.st A2 m2 m2 V.st w2 (by have:=hN.len;have:=HAL.out;omega) (by have:=hN.len;omega) ((HR1.out.below hb2).up hb2.size) hi2.row;rw[decide_eq_true (rfl:V.st=V.st)]at hsm;have HSM:=H_ hsm;have HB2:=H_ (az HB1.out hb2);clear hsm hi2 hb2 hm2 HJN HR1;go_wp2_with fail
 with_reducible refine HSM.out.mono ?_
 rintro e w3 ⟨rfl,hb3⟩;have hb3':=az HB2.out hb3;have h3:=H2.out.below hb3';have hx3:=HX.out.1.below hb3';have hx4:=HX.out.2.below hb3';have k1:=h3.box.c1;have t2:=hx3.c0;have HSY:=H_ (sq2 h3.at_ hN.nm);have H3:=H_ h3;have HX4:=H_ hx4;have HB3:=H_ (HB.out.trans (hb3'.mono HB.out.size));clear hb3 hb3' h3 hx3 hx4 HSM k1' t2';go_wp2_with fail
 with_reducible refine HSY.out.mono ?_
 rintro e w4 ⟨rfl,hu⟩;have hu2:=H3.out.upd hu;obtain⟨hm1,hm2,hm3⟩:=HM.out;have hgx:w.heap.size+1∉XY X Y:=fun hm=>by have:=hm1 _ hm;omega
 have hsaid:=fun v=>hu2.said (g:=w.heap.size+1) HB3.out (by rw[St.qy2];exact hN.tabs) (by omega) (by omega) (by omega) hgx HX4.out v;have hx5:=HX4.out.chg hu.c hgx;have c5:=hx5.c0;have f5:=hx5.free 0;have HZ:=H_ hsaid;have hiz:=ev5 (St.sync S V).2.2;have HR5:=HR.out;obtain⟨s1,s2,er,hs⟩:∃s1 s2 er,St.sync S V=(s1,s2,er):=⟨_,_,_,rfl⟩;rw[hs]at HZ HR5 hiz ⊢;simp only at HZ HR5 hiz ⊢;obtain⟨b,hb⟩:=n_ ((er==0));rw[←hb]at HR5 hiz;have HR6:=H_ HR5;clear hsaid hu2 hu HR5 hs hb hx5 hm1 hm2 hm3 hgx k1 t2;go_wp2;refine bodyPost_ret (v:=.bool b) (by simp[results,go_sem, *]) rfl ?_;rw[HR6.out];exact⟨rfl,HZ.out _⟩
end
section
open Go Go.RowKit Go.Lib Go.Shelf
attribute [local go_sem] Oper.semAt_some
variable {w w1 w2:World} {X X1 X2:Dw} {S S1 S2:Sd} {Y Y1 Y2:Yw} {V V1 V2:Sv} {nb now grace:Nat} {ni:Int}
theorem aj1.kx5 {B:Nat} (h:aj1 B w):tq3 w [B,B+1]:=fun a ha v hv=>by
 obtain⟨h1,r,h2⟩:=h;unfold World.cell? at hv
 rcases g_.1 ha with e|e
 ·rw[e,h1]at hv
  cases hv
 ·rw[c_.1 e,h2]at hv
  cases hv
def zw2 (X:Dw) (Y:Yw) (w0:World) (B g:Nat) (nb:Nat) (ni:Int) (now grace:Nat) (S1:Sd) (V1:Sv) (W:World):Prop:=∃X1 Y1,X1.d=X.d∧Y1.s=Y.s∧NdAt W X1 S1 Y1 V1 nb ni now grace∧Chg (XY X Y) w0 W∧(∀g∈XY X1 Y1,g∈XY X Y∨w0.heap.size≤g)∧(B∉XY X1 Y1∧B+1∉XY X1 Y1∧g+1∉XY X1 Y1)∧aj1 B W∧V1.tabs=[]∧(w0.heap.size≤g∧g+1 < B∧nb < g∧NG≤g∧NewA w0 Y Y1)∧BoxO W 25 g [.pointer (some ⟨nb,0,none⟩)]∧BoxO W 4 (g+1) [.bool false]
theorem zw2.step {w0:World} {B g:Nat} (h:zw2 X Y w0 B g nb ni now grace S1 V1 w1) (c:Chg [B,B+1] w1 w2) (hl:aj1 B w2):zw2 X Y w0 B g nb ni now grace S1 V1 w2:=by
 obtain⟨X1,Y1,e,es,h1,hc,hf,hb,hla,ht,hg,x1,x2⟩:=h;have hlt:=hla.lt;refine⟨X1,Y1,e,es,h1.tick ht hla.kx5 c (fun y hy=>?_),hc.trans c (fun y hy=>.inr ?_),hf,hb,hl,ht,hg,x1.chg c (fun hm=>by simp at hm;omega),x2.chg c (fun hm=>by simp at hm;omega)⟩
 ·rcases g_.1 hy with rfl|hy
  ·exact⟨hb.1,by omega,by omega,by omega⟩
  ·rw[c_.1 hy]
   exact⟨hb.2.1,by omega,by omega,by omega⟩
 ·simp at hy
  omega
theorem wj3 (h:NdAt w X S Y V nb ni now grace) (hN:Nrm V) (A:Option Addr) (n c:Nat) (l:List It) (h0:0 < n) (hn:n≤1000) (hnc:n≤c) (hr:Row w.heap.size w A n 5 (itc l)) (hA:∀a,A=some a→a.block∉XY X Y) (hfit:∀x∈l,x.fit) (hj:joins V.st l≠V.st):
  Calls Tryz.prog 54 #[.pointer (some ⟨nb,0,none⟩),.slice A n c] w fun e w'=>e=.returned (.bool (St.last S V l).2.2)∧az1 X Y w w' (St.last S V l).1 (St.last S V l).2.1 nb ni now grace:=by
 have hb1:=b_ w (.cells #[.pointer (some ⟨nb,0,none⟩)] 25);have hb2:=hb1.alloc (by simp) (.cells #[.bool false] 4);have hx0:=(BoxO.new w #[.pointer (some ⟨nb,0,none⟩)] 25).alloc (.cells #[.bool false] 4);have hx1:=BoxO.new (w.alloc (.cells #[.pointer (some ⟨nb,0,none⟩)] 25)) #[.bool false] 4;rw[A_]at hx1;have h2:=h.below hb2;have hrl:=hr.uz;have hlt:=h.at_.lt;have hnl:=h.box.lt;have hbase:=h.at_.dm.env.base;obtain⟨W,hW⟩:=n_ ((w.alloc (.cells #[.pointer (some ⟨nb,0,none⟩)] 25)).alloc (.cells #[.bool false] 4));obtain⟨R,hR⟩:=n_ (St.last S V l);rw[←hR];unfold St.last at hR;rw[if_neg hj]at hR;rw[←hW]at hb2 hx0 hx1 h2;have k1:=h2.box.c1;have t2:=hx0.c0;have k1':=k1;have t2':=t2;rw[hW]at k1 t2;have hst:=dz1 h2.at_ (by have:=hN.len;omega);have HST:=H_ hst;have H2:=H_ h2;have HX:=H_ (d_ hx0 hx1);have HB:=H_ hb2;have HR:=H_ hR;have HROW:=H_ ((hr.below hb2).up hb2.size);have HM:=H_ (d_ hlt (d_ hnl hbase));have HJ:=H_ hj;have HAL:=H_ (h.at_.alen);clear hst h2 hx0 hx1 hb2 hb1 hR hr hlt hnl hbase h hj;refine(callsIn_wide (n:=6)).1 ?_;refine callsIn_of_wp_marks Tryz.func54 rfl trivial ?_ rfl;simp only[Tryz.ntmps54,aj_,r_,R_,Nat.reduceAdd,Nat.reduceSub,aL_,aM_,aZ_,aQ_,y_,N_]
 gi_wp2_with fail
 rw[←hW];have HW:=H_ hW;clear k1 t2 hW;refine⟨trivial,?_⟩
 with_reducible refine(callsIn_wide.2 HST.out).mono ?_
 rintro e w1 ⟨A1,c1,rfl,ho1,hb1⟩;obtain⟨A1',c1',hv,hcc1,hcm1,_⟩:=dw ho1;injection hv with q1 q2 q3;subst q1 q3;have hrow1:=Row.own ho1;have hjn:=oy2 A1 Y.A.n c1 V.st A n c l w1 (by have:=hN.len;have:=HAL.out;omega) hcc1 hcm1 hN.st hrow1 ((HROW.out.below hb1).up hb1.size);have hjl:=rx2 l V.st;obtain⟨J,hJ⟩:=n_ (joins V.st l);rw[←hJ]at hjn hjl;have HJN:=H_ hjn;have HR1:=H_ hrow1;have HB1:=H_ hb1;have HJ2:=H_ hJ;clear hjn hrow1 hb1 ho1 hcc1 hcm1 HST hJ
 gi_wp2_with fail
 refine⟨trivial,?_⟩
 with_reducible refine(callsIn_wide.2 HJN.out).mono ?_
 rintro e w2 ⟨A2,m2,rfl,hm2,hi2,hb2⟩;have hsm:=xv2 A1 Y.A.n c1 V.st A2 m2 m2 J w2 (by have:=hN.len;have:=HAL.out;omega) (by have:=hN.len;omega) ((HR1.out.below hb2).up hb2.size) hi2.row;rw[decide_eq_false (show ¬V.st=J from fun e=>HJ.out (by rw[←HJ2.out];exact e.symm))]at hsm;have HSM:=H_ hsm;have HB2:=H_ (az HB1.out hb2);clear hsm hi2 hb2 hm2 HJN HR1 hjl
 gi_wp2_with fail
 refine⟨trivial,?_⟩
 with_reducible refine(callsIn_wide.2 HSM.out).mono ?_
 rintro e w3 ⟨rfl,hb3⟩;have HB3:=H_ (az HB2.out hb3);clear hb3 HSM
 gi_wp2_with (refine⟨trivial,?_⟩;gi_at_call 121;refine(oq2 Fence.wide 5 trivial rfl A n c 1000 (by omega) _).mono ?_;rintro e w' ⟨rfl,rfl⟩)
 have bS:=BoxO.new w3 #[.slice A n c] 31;have bM:=BoxO.new (w3.alloc (.cells #[.slice A n c] 31)) #[.int .i64 ((1000:Nat):Int)] 3;rw[A_]at bM;have hb4:=(b_ w3 (.cells #[.slice A n c] 31)).alloc (by simp) (.cells #[.int .i64 ((1000:Nat):Int)] 3);obtain⟨p,rfl⟩:∃p,A=some p:=by
  obtain⟨a,_,e,_⟩:=HROW.out.it h0;exact⟨a,e⟩
 have hst:=xq2 Fence.wide 5 trivial rfl (by omega) w3.heap.size (w3.heap.size+1) (fun W W'=>W'.heap[w3.heap.size]?=W.heap[w3.heap.size]?∧W'.heap[w3.heap.size+1]?=W.heap[w3.heap.size+1]?) (fun W W' h=>⟨W_ h.1,W_ h.2⟩) p (some p) n c 1000 (fun _=>rfl) l hrl (by omega) (by omega) (by omega) hnc (N:=1) (fun k hk=>by omega) ((w3.alloc (.cells #[.slice (some p) n c] 31)).alloc (.cells #[.int .i64 ((1000:Nat):Int)] 3)) (by simp;omega) (by simp) ((bS.alloc (.cells #[.int .i64 ((1000:Nat):Int)] 3)).cell 0) (bM.cell 0);rw[show ((1000:Nat):Int)=(1000:Int) from rfl]at hst hb4;obtain⟨W4,hW4⟩:=n_ ((w3.alloc (.cells #[.slice (some p) n c] 31)).alloc (.cells #[.int .i64 1000] 3));have hs4:W4.heap.size=w3.heap.size+2:=by rw[hW4];simp
 rw[←hW4]at hst hb4 ⊢;have hxb:=HX.out.1.below HB3.out;have hxc:=HX.out.2.below HB3.out;have hx4:=(hxb.below hb4);have hx5:=(hxc.below hb4);have h4:=(H2.out.below HB3.out).below hb4;have hbW:Below w.heap.size w W4:=HB.out.trans ((az HB3.out hb4).mono HB.out.size);have hcut:Tb.cut 1000 n l=[l]:=by
  have:l≠[]:=fun e=>by rw[e]at hrl;simp at hrl;omega
  obtain⟨k,rfl⟩:∃k,n=k+1:=⟨n - 1,by omega⟩;unfold Tb.cut;rw[if_neg this,i_ (by omega),aq_ (by omega)]
  cases k<;>simp[Tb.cut]
 have hgl:w.heap.size+1 < w3.heap.size:=by have:=hxc.lt;exact this
 have HX4:=H_ (d_ hx4 hx5);have H4:=H_ h4;have HBW:=H_ hbW;have HS4:=H_ hs4;clear hW4 hs4 hxb hxc hx4 hx5 h4 hbW bS bM;refine ek1 (α:=Ck 1000 n) (n:=6) (encs:=fun x=>#[Ck.val p x]) rfl (by omega) (gf:=205) (lb:=#[.pointer (some ⟨w3.heap.size,0,none⟩),.pointer (some ⟨w3.heap.size+1,0,none⟩)]) rfl trivial (enters_of Tryz.func205 (by kernel_rfl) rfl) hst (fun h k=>⟨k.1.trans h.1,k.2.trans h.2⟩) ?hKb b0_ (fun _=>rfl)
  (fun pre W=>(pre=[]∧Below W4.heap.size W4 W)∨(pre.length=1∧(St.apply S V l).2.2=0∧zw2 X Y w W4.heap.size w.heap.size nb ni now grace (St.apply S V l).1 (St.apply S V l).2.1 W))
  (fun c pre W=>c=.ret∧(St.apply S V l).2.2≠0∧zw2 X Y w W4.heap.size w.heap.size nb ni now grace (St.apply S V l).1 (St.apply S V l).2.1 W) ?hI ?hIx (.inl ⟨rfl,Below.refl _ _⟩)
  (fun x=>{ tmps:=#[.pointer (some ⟨nb,0,none⟩),.slice (some p) n c,.pointer (some ⟨w.heap.size,0,none⟩),undef,.pointer (some ⟨w.heap.size+1,0,none⟩),.slice A1 Y.A.n c1,Ck.val p x,.pointer (some ⟨nb,0,none⟩),.pointer (some ⟨nb,0,none⟩),.pointer (some ⟨nb,1,none⟩),.pointer (some ⟨Y.s,0,none⟩),.slice A1 Y.A.n c1,.slice A1 Y.A.n c1,.slice A1 Y.A.n c1,.slice (some p) n c,.slice A2 m2 m2,.bool false,.bool true,.slice (some p) n c,.func (.func 205) #[] #[.pointer (some ⟨w3.heap.size,0,none⟩),.pointer (some ⟨w3.heap.size+1,0,none⟩)],Ck.val p x,undef,undef,undef,undef,undef,undef,undef,undef,undef,undef,undef,undef,undef],defers:=[] }) ?assig ?body ?done ?stop
 case hKb=>
  have hs4:=HS4.out;intro W l2 o' hl;exact⟨I_ (by omega),I_ (by omega)⟩
 case hI=>
  rintro pre W W' (⟨h1,h2⟩|⟨h1,h2,h3⟩) hc hl
  ·exact .inl ⟨h1,h2.trans (hc.below h2.size (fun g hg=>by simp at hg;omega))⟩
  ·exact .inr ⟨h1,h2,h3.step hc hl⟩
 case hIx=>
  rintro c2 pre W W' ⟨h1,h2,h3⟩ hc hl;exact⟨h1,h2,h3.step hc hl⟩
 case assig=>
  intro l2 x W K hK
  gi_wp2
  exact hK
 case body=>
  have hs4:=HS4.out;rintro l2 pre x W5 hla hI hlt _;obtain⟨rfl,hbl⟩:=hI.resolve_right (fun h=>by omega);have hx0:x.1=0:=by have:=x.2;omega
  have hv:Ck.val p x=.slice (some p) n n:=by
   unfold Ck.val Ck.len;rw[hx0];simp only[Nat.zero_mul,Nat.sub_zero];rw[Nat.min_eq_right (by omega)];rfl
  have h5:=H4.out.below hbl;have hx5:=HX4.out.1.below hbl;have hx6:=HX4.out.2.below hbl;have k1:=h5.box.c1;have t2:=hx5.c0;have t4:=hx6.c0;have f4:=hx6.free 0;have hrw:=(HROW.out.below (HB3.out.trans ((az b0_ hb4).mono HB3.out.size)));have hap:=aq3 h5.at_ (some p) n n l (by omega) ((hrw.below (hbl.mono (by have:=HB3.out.size;omega))).up (h_ HB3.out.size (h_ hb4.size hbl.size))) hA hfit hN.st (by have:=hN.len;omega) (by have:=hN.sz;omega) (by have:=hN.ct;omega) (by have:=hN.mem;omega) hN.nm;obtain⟨r,hr⟩:=n_ (St.apply S V l);have htb:=St.px3 S V l;rw[←hr]at hap htb ⊢;obtain⟨S1,V1,er⟩:=r;unfold uy at hap;simp only at hap htb ⊢;have HLA:=H_ hla;have H5:=H_ h5;have HX5:=H_ (d_ hx5 hx6);have HAP:=H_ hap;have HBL:=H_ hbl;have HT:=H_ htb;clear hap hr hbl hx5 hx6 h5 hla hrw hst hI htb;rw[hv];clear hs4
  gi_wp2_with fail
  refine⟨trivial,?_⟩
  with_reducible refine(CallsIn.inRound l2 (callsIn_wide.2 HAP.out)).mono ?_
  rintro e w6 ⟨rfl,hu⟩;have hs4:=HS4.out;have hlx:=H5.out.at_.lt;have hnx:=HX5.out.2.lt;have hlaw:=HLA.out.lt;obtain⟨hm1,hm2,hm3⟩:=HM.out;have hgx:∀g,w.heap.size≤g→g∉XY X Y:=fun g hg hm=>by have:=hm1 g hm;omega
  have hc:=hu.c;have hcsz:=hc.size;have hkeep:uk1 W4.heap.size W5 w6:=⟨hc.block _ (by omega) (hgx _ (by omega)),hc.block _ (by omega) (hgx _ (by omega))⟩;have hkp:w6.heap[w3.heap.size]?=W5.heap[w3.heap.size]?∧w6.heap[w3.heap.size+1]?=W5.heap[w3.heap.size+1]?:=⟨hc.block _ (by omega) (hgx _ (by omega)),hc.block _ (by omega) (hgx _ (by omega))⟩;have hla6:aj1 W4.heap.size w6:=⟨(hc.block _ (by omega) (hgx _ (by omega))).trans HLA.out.1,HLA.out.2.imp fun r h=>(hc.block _ (by omega) (hgx _ (by omega))).trans h⟩;have hx7:=HX5.out.1.chg hc (hgx _ l_);have hx8:=HX5.out.2.chg hc (hgx _ (by omega));have t4b:=hx8.c0;have f4b:=hx8.free 0;have hK6:zw2 X Y w W4.heap.size w.heap.size nb ni now grace S1 V1 w6:=by
   obtain⟨X1,Y1,e,es,h1,c,f,na⟩:=H5.out.upd hu;have hbw:=HBW.out.trans (HBL.out.mono HBW.out.size);have hno:∀g,w.heap.size≤g→g < W5.heap.size→g∉XY X1 Y1:=fun g hg hl hm=>by
    rcases f g hm with q|q
    ·exact hgx g hg q
    ·omega
   exact⟨X1,Y1,e,es,h1,(Chg.of_below hbw _).trans c (fun g hg=>.inl hg),fun g hg=>(f g hg).imp (fun z=>z) (h_ hbw.size),⟨hno _ (by omega) (by omega),hno _ (by omega) (by omega),hno _ (by omega) (by omega)⟩,hla6,by rw[HT.out];exact hN.tabs,⟨x_ _,by omega,hm2,hm3,na.imp (fun z=>z) (fun z a ha=>h_ hbw.size (z a ha))⟩,hx7,hx8⟩
  have HK6:=H_ hK6;have HKE:=H_ (d_ hkeep hkp)
  by_cases h0:er=0
  ·subst h0
   clear hs4 hcsz hK6 hkeep hkp hla6 hx7 hx8 hc hlx hnx hlaw hm1 hm2 hm3 hgx hu t4 f4 k1 t2
   gi_wp2
   exact⟨HKE.out.1,HKE.out.2,.inr ⟨rfl,HK6.out⟩⟩
  ·have e1:((er:Int)==0)=false:=by simp;omega
   have hK7:zw2 X Y w W4.heap.size w.heap.size nb ni now grace S1 V1 (w6.setCell ⟨w.heap.size+1,0,none⟩ (.bool false)):=by
    obtain⟨X1,Y1,e,es,h1,c,f,hb,hla,ht,hg,x1,x2⟩:=hK6;have hcs:Chg [w.heap.size+1] w6 (w6.setCell ⟨w.heap.size+1,0,none⟩ (.bool false)):=(Chg.refl _ w6).setCell _ (.inl (by simp));have hne:∀g,g≠w.heap.size+1→g∉[w.heap.size+1]:=fun g hg hm=>hg (c_.1 hm);exact⟨X1,Y1,e,es,h1.tick ht (by2 x2) hcs (fun y hy=>by rw[c_.1 hy];exact⟨hb.2.2,by omega,x2.lt,by omega⟩),c.trans hcs (fun y hy=>by rw[c_.1 hy];exact .inr (by omega)),f,hb,⟨(hcs.block _ (by omega) (hne _ (by omega))).trans hla.1,hla.2.imp fun r h=>(hcs.block _ (by omega) (hne _ (by omega))).trans h⟩,ht,hg,x1.chg hcs (hne _ (by omega)),x2.store 0 (.bool false)⟩
   have hke7:uk1 W4.heap.size W5 (w6.setCell ⟨w.heap.size+1,0,none⟩ (.bool false)):=by
    have hcs:Chg [w.heap.size+1] w6 (w6.setCell ⟨w.heap.size+1,0,none⟩ (.bool false)):=(Chg.refl _ w6).setCell _ (.inl (by simp));exact⟨(hcs.block _ (by omega) (by simp;omega)).trans hkeep.1,(hcs.block _ (by omega) (by simp;omega)).trans hkeep.2⟩
   have HK7:=H_ hK7;have HKE7:=H_ hke7;have H0:=H_ h0;clear hs4 hcsz hK6 hkeep hkp hla6 hx7 hx8 hc hlx hnx hlaw hm1 hm2 hm3 hgx hu t4 f4 k1 t2 hK7 hke7 h0
   gi_wp2
   exact⟨HKE7.out,rfl,H0.out,HK7.out⟩
 case done=>
  rintro D ys W5 hD hys hI hK hDe;obtain⟨hy1,he0,X1,Y1,e,es,h5,c,f,hb,hla,ht,hg,x1,x2⟩:=hI.resolve_left (fun h=>by
   rw[h.1,hcut]at hys
   cases hys)
  have k1:=h5.box.c1;have t2:=x1.c0;have hsy:=sq2 h5.at_ (by
   have:(St.apply S V l).2.1.nm=V.nm:=by
    unfold St.apply;simp only
    repeat' split
    all_goals rfl
   rw[this];exact hN.nm)
  have HSY:=H_ hsy;clear hsy hI hst;obtain⟨r,hr⟩:=n_ (St.apply S V l);rw[←hr]at he0 h5 ht HSY;have HR5:=HR.out;rw[←hr]at HR5;obtain⟨S1,V1,er⟩:=r;simp only at he0 h5 ht HSY HR5;rw[if_neg (by simp[he0])]at HR5;have HR6:=H_ HR5;have H5:=H_ h5;have HC:=H_ (d_ e (d_ es (d_ c (d_ f (d_ hb hg)))));have HX5:=H_ (d_ x1 x2);have HLA:=H_ hla;have HT:=H_ ht;have HDE:=H_ hDe;have HK:=H_ hK;clear HR5 h5 e es c f hb hg x1 x2 hla ht hDe hK he0 hr hys hy1 hD
  gi_wp2_with fail
  refine⟨trivial,?_⟩
  with_reducible refine(callsIn_wide.2 HSY.out).mono ?_
  rintro e w6 ⟨rfl,hu⟩;have hu2:=H5.out.upd hu;obtain⟨e,es,c,f,hb,hg⟩:=HC.out;have hlt5:=HLA.out.lt;have hlx:=H5.out.at_.lt;have hx6:=HX5.out.2.chg hu.c hb.2.2;have c4:=hx6.c0;have f4:=hx6.free 0;have hiz:=ev5 (St.sync S1 V1).2.2;have htb:=St.qy2 S1 V1;obtain⟨s2,v2,er2,hs⟩:∃s1 s2 er,St.sync S1 V1=(s1,s2,er):=⟨_,_,_,rfl⟩;have HR7:=HR6.out;rw[hs]at hu2 HR7 hiz htb ⊢;simp only at hu2 HR7 hiz htb ⊢;obtain⟨b,hbe⟩:=n_ ((er2==0));rw[←hbe]at HR7 hiz;have HR8:=H_ HR7;have hde:=HDE.out;have hk6:w6.heap[D]?=some (.deferred (some [])):=(hu.c.block D (by rw[hde];omega) (by rw[hde];exact hb.1)).trans HK.out;have hk7:∀v,(w6.setCell ⟨w.heap.size+1,0,none⟩ v).heap[D]?=some (.deferred (some [])):=fun v=>(((Chg.refl [w.heap.size+1] w6).setCell (p:=⟨w.heap.size+1,0,none⟩) v (.inl (by simp))).block D (w_.1 hk6).1 (fun hm=>by have:=c_.1 hm;omega)).trans hk6;have hfin:∀v,az1 X Y w ((w6.setCell ⟨w.heap.size+1,0,none⟩ v).putObj D (.deferred none)) s2 v2 nb ni now grace:=fun v=>by
   obtain⟨X2,Y2,e2,es2,h6,c6,f6,n6⟩:=hu2;have hno:∀y,y∉XY X1 Y1→y < W5.heap.size→y∉XY X2 Y2:=fun y h1 h2 hm=>by
    rcases f6 y hm with q|q
    ·exact h1 q
    ·omega
   have ht2:v2.tabs=[]:=by rw[htb];exact HT.out
   have hcs:Chg [w.heap.size+1] w6 (w6.setCell ⟨w.heap.size+1,0,none⟩ v):=(Chg.refl _ w6).setCell _ (.inl (by simp));have h7:=h6.tick ht2 (by2 hx6) hcs (fun y hy=>by rw[c_.1 hy];exact⟨hno _ hb.2.2 (by omega),by omega,hx6.lt,by omega⟩);have hcd:Chg [D] (w6.setCell ⟨w.heap.size+1,0,none⟩ v) ((w6.setCell ⟨w.heap.size+1,0,none⟩ v).putObj D (.deferred none)):=⟨rfl,rfl,rfl,by simp,fun y _ hy=>I_ (fun e=>hy (by simp[e]))⟩;have h8:=h7.tick ht2 (G:=[D]) (fun a ha u hu=>by
    unfold World.cell? at hu;rw[c_.1 ha,hk7 v]at hu
    cases hu) hcd (fun y hy=>by rw[c_.1 hy];exact⟨by rw[hde];exact hno _ hb.1 (by omega),by omega,(w_.1 (hk7 v)).1,by omega⟩)
   exact⟨X2,Y2,e2.trans e,es2.trans es,h8,((c.trans c6 f).trans hcs (fun y hy=>by rw[c_.1 hy];exact .inr (by omega))).trans hcd (fun y hy=>by rw[c_.1 hy];exact .inr (by omega)),fun y hy=>by
    rcases f6 y hy with q|q
    ·exact f y q
    ·exact .inr (h_ c.size q),hg.2.2.2.2.trans n6 c.size⟩
  have HFIN:=H_ hfin;have HK7:=H_ hk7;clear hfin hk7 hk6 hde hu2 hu e es c f hb hg hlt5 hlx hx6 htb hs hbe HR7 k1 t2
  gi_wp2
  refine⟨by simp,.inl ⟨_,_,rfl,run_takeDeferred (HK7.out _),?_⟩⟩;have hcell:((w6.setCell ⟨w.heap.size+1,0,none⟩ (.bool b)).putObj D (.deferred none)).cell? ⟨w.heap.size+1,0,none⟩=some (.bool b):=(W_ (I_ (fun e=>by have:=HK7.out (.bool b);rw[←e]at this;have h9:=aF_ w6 ⟨w.heap.size+1,0,none⟩ (.bool b) c4;unfold World.cell? at h9;rw[this]at h9;cases h9))).trans (aF_ w6 ⟨w.heap.size+1,0,none⟩ (.bool b) c4);refine⟨.bool b,by simp[results,go_sem,hcell],?_⟩;rw[HR8.out];exact⟨rfl,HFIN.out _⟩
 case stop=>
  rintro D c2 pre W5 hD _ ⟨rfl,hne,X1,Y1,e,es,h5,c,f,hb,hla,ht,hg,x1,x2⟩ hK hDe;have HR5:=HR.out;rw[if_pos hne]at HR5;have hlt5:=hla.lt;have hcd:Chg [D] W5 (W5.putObj D (.deferred none)):=⟨rfl,rfl,rfl,by simp,fun y _ hy=>I_ (fun e=>hy (by simp[e]))⟩;have h8:=h5.tick ht (G:=[D]) (fun a ha u hu=>by
   unfold World.cell? at hu;rw[c_.1 ha,hK]at hu
   cases hu) hcd (fun y hy=>by rw[c_.1 hy];exact⟨by rw[hDe];exact hb.1,by omega,by omega,by omega⟩)
  have hfin:az1 X Y w (W5.putObj D (.deferred none)) (St.apply S V l).1 (St.apply S V l).2.1 nb ni now grace:=⟨X1,Y1,e,es,h8,c.trans hcd (fun y hy=>by rw[c_.1 hy];exact .inr (by omega)),f,hg.2.2.2.2⟩;have hcell:(W5.putObj D (.deferred none)).cell? ⟨w.heap.size+1,0,none⟩=some (.bool false):=(W_ (I_ (fun e=>by have e2:w.heap.size+1=D:=e;omega))).trans (x2.cell 0);have HFIN:=H_ hfin;have HR8:=H_ HR5;have HK:=H_ hK;clear hfin HR5 hK h8 hcd hlt5 hne e es h5 c f hb hla ht hg x1 x2
  gi_wp2
  refine⟨by simp,.inl ⟨_,_,rfl,run_takeDeferred HK.out,?_⟩⟩;refine⟨.bool false,by simp[results,go_sem,hcell],?_⟩;rw[HR8.out];exact⟨rfl,HFIN.out⟩
theorem wk2 (h:NdAt w X S Y V nb ni now grace) (hN:Nrm V) (A:Option Addr) (n c:Nat) (l:List It) (hn:n≤1000) (hnc:n≤c) (hr:Row w.heap.size w A n 5 (itc l)) (hA:∀a,A=some a→a.block∉XY X Y) (hfit:∀x∈l,x.fit):
  Calls Tryz.prog 54 #[.pointer (some ⟨nb,0,none⟩),.slice A n c] w fun e w'=>e=.returned (.bool (St.last S V l).2.2)∧az1 X Y w w' (St.last S V l).1 (St.last S V l).2.1 nb ni now grace:=by
 by_cases hj:joins V.st l=V.st
 ·exact uq3 h hN A n c l hn hr hj
 ·refine wj3 h hN A n c l ?_ hn hnc hr hA hfit hj
  rcases ad_ n with h0|h0
  ·have:=hr.uz
   have hl:l=[]:=U_.1 (by omega);rw[hl]at hj;exact absurd rfl hj
  ·exact h0
end
section
open Go Go.RowKit Go.Lib Go.Shelf
variable {w w1 w2:World} {X X1 X2:Dw} {S S1 S2:Sd} {Y Y1 Y2:Yw} {V V1 V2:Sv} {nb now grace:Nat} {ni:Int}
def Answ (w:World) (g:Nat) (k frm to_:Int) (id no:Nat) (B:Option Addr) (n c:Nat):Prop:=BoxO w 33 g [.int .i64 k,.int .i64 frm,.int .i64 to_,.int .u64 (id:Int),.int .u64 (no:Int),.slice B n c]
theorem kz1 {P S a oi v} (h:Hv P S a oi v:=by intro w hSw;(obtain⟨k1,k2,k3,k4⟩:=HC.out _ hSw);go_simp;try (with_reducible rfl)):Hv P S a oi v:=h
theorem ak1 (gn gm nb:Nat) (mf ni k:Int) (mi no:Nat) (B:Option Addr) (n c:Nat) (w:World) (h1:w.cell? ⟨gn,0,none⟩=some (.pointer (some ⟨nb,0,none⟩))) (h2:w.cell? ⟨nb,0,none⟩=some (.int .i64 ni)) (h3:w.cell? ⟨gm,1,none⟩=some (.int .i64 mf)) (h4:w.cell? ⟨gm,3,none⟩=some (.int .u64 (mi:Int))):
  Calls Tryz.prog 52 #[.int .i64 k,.int .u64 (no:Int),.slice B n c,.pointer (some ⟨gn,0,none⟩),.pointer (some ⟨gm,0,none⟩)] w fun e w'=>e=.returned (.slice (some ⟨w.heap.size,0,none⟩) 1 1)∧Below w.heap.size w w'∧Answ w' w.heap.size k ni mf mi no B n c:=by
 have hb0:=b_ w (.cells #[.int .i64 k,.int .i64 ni,.int .i64 mf,.int .u64 (mi:Int),.int .u64 (no:Int),.slice B n c] 33);have hb1:=(ak (Below.refl w.heap.size w)).alloc l_ (.cells #[.int .i64 k,.int .i64 ni,.int .i64 mf,.int .u64 (mi:Int),.int .u64 (no:Int),.slice B n c] 33);have hx1:=BoxO.new w.drew #[.int .i64 k,.int .i64 ni,.int .i64 mf,.int .u64 (mi:Int),.int .u64 (no:Int),.slice B n c] 33;have HC:=H_ (fun W (hb:Below w.heap.size w W)=>d_ ((hb.cell (p:=⟨gn,0,none⟩) (V_ w _ h1)).trans h1) (d_ ((hb.cell (p:=⟨nb,0,none⟩) (V_ w _ h2)).trans h2) (d_ ((hb.cell (p:=⟨gm,1,none⟩) (V_ w _ h3)).trans h3) ((hb.cell (p:=⟨gm,3,none⟩) (V_ w _ h4)).trans h4))));have HB:=H_ (d_ hb1 hx1);clear hb0 hb1 hx1;go_enter Tryz.func52,Tryz.ntmps52;go_wp2_with fail;refine wp_region_held_drew (S:=fun w'=>Below w.heap.size w w') rfl (ak b0_) (fun hSw=>?_);refine w_v 0 hSw ?_ (k:=kz1);go_simp;refine w_v 1 hSw ?_ (k:=kz1);go_simp;refine w_v 2 hSw ?_ (k:=kz1);go_simp;refine w_v 3 hSw ?_ (k:=kz1);go_simp;refine w_v 4 hSw ?_ (k:=kz1);go_simp;refine w_v 5 hSw ?_ (k:=kz1);go_simp;refine w_v 6 hSw ?_ (k:=kz1);go_simp;refine w_v 7 hSw ?_ (k:=kz1);go_simp;refine w_v 8 hSw ?_ (k:=kz1);go_simp;refine w_v 9 hSw ?_ (k:=kz1);go_simp;refine w_v 10 hSw ?_ (k:=kz1);go_simp;refine w_v 11 hSw ?_ (k:=kz1);go_simp;refine w_r 12 fun K hK=>?_
 skip
 go_simp;refine hK.out _ _ (hSw.alloc hSw.size _) ?_;clear hSw hK K;intro hSw;go_simp;refine w_v 13 hSw ?_ (k:=kz1);go_simp;refine wpAnyH_done (by kernel_rfl) ?_ _;clear hSw HC;go_wp2;go_ret;exact⟨rfl,HB.out.1,HB.out.2⟩
end
section
open Go Go.RowKit Go.Lib Go.Shelf
variable {w w1 w2:World} {X X1 X2:Dw} {S S1 S2:Sd} {Y Y1 Y2:Yw} {V V1 V2:Sv} {nb now grace:Nat} {ni:Int}
def yw (X:Dw) (Y:Yw) (w:World) (S1:Sd) (V1:Sv) (nb:Nat) (ni:Int) (now grace:Nat) (mf:Int) (mi:Nat) (ans:Option (Int×Nat×List It)) (e:Ending) (w':World):Prop:=∃X1 Y1,X1.d=X.d∧Y1.s=Y.s∧NdAt w' X1 S1 Y1 V1 nb ni now grace∧Chg (XY X Y) w w'∧(∀g∈XY X1 Y1,g∈XY X Y∨w.heap.size≤g)∧NewA w Y Y1∧
 match ans with
 |none=>e=.returned (.slice none 0 0)
 |some (k,no,L)=>∃g B n c,e=.returned (.slice (some ⟨g,0,none⟩) 1 1)∧Answ w' g k ni mf mi no B n c∧w.heap.size≤g∧Row w'.heap.size w' B n 5 (itc L)∧(∀a,B=some a→w.heap.size≤a.block)∧g∉XY X1 Y1∧∀a,B=some a→a.block∉XY X1 Y1
theorem az1.told {W:World} {k:Int} {mf:Int} {mi nn:Nat} {B:Option Addr} {n c:Nat} {L:List It} {e:Ending} (hk:az1 X Y W w1 S1 V1 nb ni now grace) (hb:Below w.heap.size w W) (hr:Row w1.heap.size w1 B n 5 (itc L)) (hl:∀a,B=some a→w.heap.size≤a.block∧∀X1 Y1,NdAt w1 X1 S1 Y1 V1 nb ni now grace→(∀g∈XY X1 Y1,g∈XY X Y∨W.heap.size≤g)→a.block∉XY X1 Y1)
  (he:e=.returned (.slice (some ⟨w1.heap.size,0,none⟩) 1 1)) (hb2:Below w1.heap.size w1 w2) (ha:Answ w2 w1.heap.size k ni mf mi nn B n c):yw X Y w S1 V1 nb ni now grace mf mi (some (k,nn,L)) e w2:=by
 obtain⟨X1,Y1,e1,es,h1,cc,f,na⟩:=hk;have hs:=cc.size;have hs2:=hb.size;refine⟨X1,Y1,e1,es,h1.below hb2,((Chg.of_below hb _).trans cc (fun g hg=>.inl hg)).trans (Chg.of_below hb2 (XY X Y)) (fun g hg=>.inl hg),fun g hg=>(f g hg).imp (fun z=>z) (h_ hb.size),na.imp (fun z=>z) (fun z a ha=>h_ hb.size (z a ha)),w1.heap.size,B,n,c,he,ha,by omega,(hr.below hb2).up hb2.size,fun a ha=>(hl a ha).1,fun hm=>?_,fun a ha=>(hl a ha).2 X1 Y1 h1 f⟩;have:=h1.at_.lt _ hm;omega
theorem az1.mute {W:World} {mf:Int} {mi:Nat} (hk:az1 X Y W w1 S1 V1 nb ni now grace) (hb:Below w.heap.size w W):yw X Y w S1 V1 nb ni now grace mf mi none (.returned (.slice none 0 0)) w1:=by
 obtain⟨X1,Y1,e1,es,h1,cc,f,na⟩:=hk;exact⟨X1,Y1,e1,es,h1,(Chg.of_below hb _).trans cc (fun g hg=>.inl hg),fun g hg=>(f g hg).imp (fun z=>z) (h_ hb.size),na.imp (fun z=>z) (fun z a ha=>h_ hb.size (z a ha)),rfl⟩
def St.put (S:Sd) (V:Sv) (l:List It):Sd×Sv×Option (Int×Nat×List It):=
 if (l.any fun a=>decide (a.v≤V.M.v.floor))=true then (S,V,some (3,V.M.v.floor,[])) else
 if (St.last S V l).2.2=true then ((St.last S V l).1,(St.last S V l).2.1,some (2,0,[])) else ((St.last S V l).1,(St.last S V l).2.1,none)
theorem kz38 {P S a oi v} (h:Hv P S a oi v:=by intro w hSw;(obtain⟨x,y,z⟩:=HK.out _ hSw;have x0:=x.c0;have y0:=y.c0;have y1:=y.c1;have y2:=y.c2;have y3:=y.c3;have y4:=y.c4;have y5:=y.c5;have z0:=z.box.c0;clear x y z);go_simp;try (with_reducible rfl)):Hv P S a oi v:=h
theorem qz4 (h:NdAt w X S Y V nb ni now grace) (hN:Nrm V) (frm:Int) (mi no:Nat) (A:Option Addr) (n c:Nat) (l:List It) (hg:(Mq.mk 1 frm ni mi no A n c).Good l) (hr:Row w.heap.size w A n 5 (itc l)) (hnc:n≤c) (hn:n≤1000) (hA:∀a,A=some a→a.block∉XY X Y) (hfit:∀x∈l,x.fit):
  Calls Tryz.prog 15 #[.pointer (some ⟨nb,0,none⟩),.agg #[.int .i64 1,.int .i64 frm,.int .i64 ni,.int .u64 (mi:Int),.int .u64 (no:Int),.slice A n c]] w (yw X Y w (St.put S V l).1 (St.put S V l).2.1 nb ni now grace frm mi (St.put S V l).2.2):=by
 obtain⟨R,hR⟩:=n_ (St.put S V l);rw[←hR];unfold St.put at hR;have HR:=H_ hR;have HH:=H_ h;clear hR;have hb1:=b_ w (.cells #[.pointer (some ⟨nb,0,none⟩)] 25);have hb2:=hb1.alloc (by simp) (.cells #[.int .i64 1,.int .i64 frm,.int .i64 ni,.int .u64 (mi:Int),.int .u64 (no:Int),.slice A n c] 33);have hx0:=(BoxO.new w #[.pointer (some ⟨nb,0,none⟩)] 25).alloc (.cells #[.int .i64 1,.int .i64 frm,.int .i64 ni,.int .u64 (mi:Int),.int .u64 (no:Int),.slice A n c] 33);have hx1:=BoxO.new (w.alloc (.cells #[.pointer (some ⟨nb,0,none⟩)] 25)) #[.int .i64 1,.int .i64 frm,.int .i64 ni,.int .u64 (mi:Int),.int .u64 (no:Int),.slice A n c] 33;rw[A_]at hx1;have h2:=h.below hb2;have hmf:∀(fn:Fn) (first cap:Array Value) (w:World),(Instr.makeFunc fn first cap).run Tryz.prog w=.ok (.func fn first cap) w:=fun _ _ _ _=>rfl;obtain⟨W,hW⟩:=n_ ((w.alloc (.cells #[.pointer (some ⟨nb,0,none⟩)] 25)).alloc (.cells #[.int .i64 1,.int .i64 frm,.int .i64 ni,.int .u64 (mi:Int),.int .u64 (no:Int),.slice A n c] 33));obtain⟨g0,hg0⟩:=n_ w.heap.size;rw[←hW]at hb2 hx0 hx1 h2;rw[←hg0]at hx0 hx1;have hmo:=fun W' (hb:Below W.heap.size W W')=>dx3 _ l W' hg ((((hr.below hb2).up hb2.size).below hb).up hb.size);unfold Mq.val at hmo;simp only at hmo;have HMO:=H_ hmo;have H2:=H_ h2;have HX:=H_ (d_ hx0 hx1);have HB:=H_ hb2;have HW:=H_ (d_ hW hg0);have HROW:=H_ ((hr.below hb2).up hb2.size);have HL:=H_ (d_ h.at_.lt (d_ h.box.lt h.at_.dm.env.base));have HK:=H_ (fun W' (hb:Below W.heap.size W W')=>d_ (hx0.below hb) (d_ (hx1.below hb) (h2.below hb)));clear hmo h2 hx0 hx1 hb1 hb2 hW hg0 hr h hg;go_enter Tryz.func15,Tryz.ntmps15;go_wp2_with fail;rw[←HW.out.1,←HW.out.2];refine wp_region_held_drew (S:=fun w'=>Below W.heap.size W w') rfl (ak b0_) (fun hSw=>?_);refine w_v 0 hSw ?_ (k:=kz38);go_simp;refine w_r 1 fun K hK=>?_;go_simp
 with_reducible refine(HMO.out _ hSw).mono ?_
 rintro e w3 ⟨rfl,hb3⟩;go_simp;refine hK.out _ _ (az hSw hb3) ?_;clear hSw hK K;intro hSw;go_simp;refine w_v 2 hSw ?_ (k:=kz38);go_simp;refine w_v 3 hSw ?_ (k:=kz38);go_simp;refine w_v 4 hSw ?_ (k:=kz38);go_simp;refine w_v 5 hSw ?_ (k:=kz38);go_simp;refine w_v 6 hSw ?_ (k:=kz38);go_simp;refine w_v 7 hSw ?_ (k:=kz38);go_simp;refine w_v 8 hSw ?_ (k:=kz38);go_simp;refine w_v 9 hSw ?_ (k:=kz38);go_simp;refine w_v 10 hSw ?_ (k:=kz38);go_simp;refine w_v 11 hSw ?_ (k:=kz38);go_simp;refine wpAnyH_done (by kernel_rfl) ?_ _;have hb4:=az (ak (Below.refl W.heap.size W)) hb3;clear hSw hb3 HMO;obtain⟨x,y,z⟩:=HK.out _ hb4;have x0:=x.c0;have z1:=z.box.c1;have HME:=H_ (xx z.at_ (by have:=hN.files;omega));have HB4:=H_ hb4;clear x y z hb4;go_wp2_with fail
 with_reducible refine HME.out.mono ?_
 rintro e w4 ⟨rfl,hb5⟩;obtain⟨mt,hmt⟩:=n_ (St.oz V);have HB5:=H_ (az HB4.out hb5);have hb6:=az HB5.out (b_ w4 (.cells #[.int .u64 (mt.floor:Int),.int .u64 (mt.cert:Int),.int .u64 (mt.at_:Int),.int .u64 (mt.lease:Int)] 47));have HX6:=H_ (BoxO.new w4 #[.int .u64 (mt.floor:Int),.int .u64 (mt.cert:Int),.int .u64 (mt.at_:Int),.int .u64 (mt.lease:Int)] 47);have HB6:=H_ hb6;rw[←hmt];unfold Mt.val;have HMT:=H_ hmt;clear hmt hb5 HME x0 z1 hb6;obtain⟨x,y,z⟩:=HK.out _ HB6.out;have x0:=x.c0;have y0:=y.c0;have y1:=y.c1;have y3:=y.c3;have y4:=y.c4;have y5:=y.c5;have z0:=z.box.c0;have z1:=z.box.c1;have hal:=cx4 mt A n c l _ (by omega) ((HROW.out.below HB6.out).up HB6.out.size);obtain⟨ab,hab⟩:=n_ (l.any fun a=>decide (a.v≤mt.floor));rw[←hab]at hal;unfold Mt.val at hal;have hR:=HR.out;rw[show (l.any fun a=>decide (a.v≤V.M.v.floor))=ab by rw[hab,HMT.out];rfl]at hR;have HR2:=H_ hR;have HAL:=H_ hal;clear x y z hal hab hR HR;go_wp2_with fail
 with_reducible refine HAL.out.mono ?_
 rintro e w7 ⟨rfl,hb7⟩;have HB7:=H_ (az HB6.out hb7);have hm7:=HX6.out.below hb7;clear x0 y0 y1 y3 y4 y5 z0 z1 hb7 HAL;obtain⟨x,y,z⟩:=HK.out _ HB7.out;have x0:=x.c0;have y1:=y.c1;have y3:=y.c3;have y5:=y.c5;have z0:=z.box.c0;have m0:=hm7.c0
 cases ab with
 |true=>
  have hR:=HR2.out;rw[if_pos rfl]at hR;have HAN:=H_ (ak1 g0 (g0+1) nb frm ni 3 mi mt.floor none 0 0 w7 x0 z0 y1 y3);have HZ:Hid (∀e w',e=.returned (.slice (some ⟨w7.heap.size,0,none⟩) 1 1)→Below w7.heap.size w7 w'→Answ w' w7.heap.size 3 ni frm mi mt.floor none 0 0→yw X Y w R.1 R.2.1 nb ni now grace frm mi R.2.2 e w'):=H_ (by
   intro e w' h1 h2 h3;rw[hR,show V.M.v.floor=mt.floor by rw[HMT.out];rfl];exact(az1.same HH.out (HB.out.trans (HB7.out.mono HB.out.size))).told (W:=w) b0_ Row.nil_ (fun a ha=>by cases ha) h1 h2 h3)
  clear hR x y z hm7;go_wp2_with fail
  with_reducible refine HAN.out.mono ?_
  rintro e w8 ⟨rfl,h8,ha8⟩;have HY:=H_ (HZ.out _ _ rfl h8 ha8);clear h8 ha8 HZ HAN;go_wp2;go_ret;exact HY.out
 |false=>
  have hR:=HR2.out;rw[if_neg (by simp)]at hR;obtain⟨hl1,hl2,hl3⟩:=HL.out;have hgx:∀g,w.heap.size≤g→g∉XY X Y:=fun g hg hm=>by have:=hl1 g hm;omega
  have hla:=wk2 z hN A n c l hn hnc ((HROW.out.below HB7.out).up HB7.out.size) hA hfit;obtain⟨r,hr⟩:=n_ (St.last S V l);rw[←hr]at hla hR;obtain⟨S1,V1,b⟩:=r;simp only at hla hR;have HLA:=H_ hla;have HR3:=H_ hR;have HXY:=H_ (d_ x y);have HGX:=H_ hgx;clear hla hR hr hl1 hl2 hl3 hgx x y z hm7;go_wp2_with fail
  with_reducible refine HLA.out.mono ?_
  rintro e w8 ⟨rfl,hu⟩;have hR:=HR3.out;have HU:=H_ hu
  cases b with
  |false=>
   rw[if_neg (by simp)]at hR;have HZ:Hid (yw X Y w R.1 R.2.1 nb ni now grace frm mi R.2.2 (.returned (.slice none 0 0)) w8):=H_ (by
    rw[hR];exact HU.out.mute (HB.out.trans (HB7.out.mono HB.out.size)))
   clear hR hu;go_wp2;go_ret;exact HZ.out
  |true=>
   rw[if_pos rfl]at hR;obtain⟨X1,Y1,e1,es,h8,c8,f8,_⟩:=hu;have hg:=HW.out.2;have q0:=(HXY.out.1.chg c8 (HGX.out _ (by omega))).c0;have q1:=(HXY.out.2.chg c8 (HGX.out _ (by omega))).c1;have q3:=(HXY.out.2.chg c8 (HGX.out _ (by omega))).c3;have p0:=h8.box.c0;have han:=ak1 g0 (g0+1) nb frm ni 2 mi 0 none 0 0 w8 q0 p0 q1 q3;rw[show ((0:Nat):Int)=0 from rfl]at han;have HAN:=H_ han;have HZ:Hid (∀e w',e=.returned (.slice (some ⟨w8.heap.size,0,none⟩) 1 1)→Below w8.heap.size w8 w'→Answ w' w8.heap.size 2 ni frm mi 0 none 0 0→yw X Y w R.1 R.2.1 nb ni now grace frm mi R.2.2 e w'):=H_ (by
    intro e w' h1 h2 h3;rw[hR];exact HU.out.told (HB.out.trans (HB7.out.mono HB.out.size)) Row.nil_ (fun a ha=>by cases ha) h1 h2 h3)
   clear hR hg e1 es h8 c8 f8 han;go_wp2_with fail
   with_reducible refine HAN.out.mono ?_
   rintro e w9 ⟨rfl,h9,ha9⟩;have HY:=H_ (HZ.out _ _ rfl h9 ha9);clear h9 ha9 HZ HAN q0 q1 q3 p0;go_wp2;go_ret;exact HY.out
end
section
open Go Go.RowKit Go.Lib Go.Shelf
variable {w w1 w2:World} {X X1 X2:Dw} {S S1 S2:Sd} {Y Y1 Y2:Yw} {V V1 V2:Sv} {nb now grace:Nat} {ni:Int}
theorem yw.up {mf:Int} {mi:Nat} {ans:Option (Int×Nat×List It)} {e:Ending} (e1:X1.d=X.d) (e2:Y1.s=Y.s) (c:Chg (XY X Y) w w1) (hf:∀g∈XY X1 Y1,g∈XY X Y∨w.heap.size≤g) (hn:NewA w Y Y1) (k:yw X1 Y1 w1 S1 V1 nb ni now grace mf mi ans e w2):yw X Y w S1 V1 nb ni now grace mf mi ans e w2:=by
 obtain⟨X2,Y2,q1,q2,h,c2,f2,n2,r⟩:=k;refine⟨X2,Y2,q1.trans e1,q2.trans e2,h,c.trans c2 hf,fun g hg=>?_,hn.trans n2 c.size,?_⟩
 ·rcases f2 g hg with q|q
  ·exact hf g q
  ·exact .inr (h_ c.size q)
 ·cases ans with
  |none=>exact r
  |some a=>
   obtain⟨g,B,n,cc,z1,z2,z3,z4,z5,z6⟩:=r;exact⟨g,B,n,cc,z1,z2,h_ c.size z3,z4,fun a ha=>h_ c.size (z5 a ha),z6⟩
theorem NdAt.told (h:NdAt w X S Y V nb ni now grace) {k:Int} {mf:Int} {mi nn:Nat} {B:Option Addr} {n c:Nat} {L:List It} (hb:Below w.heap.size w w1) (hr:Row w1.heap.size w1 B n 5 (itc L)) (hl:∀a,B=some a→w.heap.size≤a.block)
  (hb2:Below w1.heap.size w1 w2) (ha:Answ w2 w1.heap.size k ni mf mi nn B n c):yw X Y w S V nb ni now grace mf mi (some (k,nn,L)) (.returned (.slice (some ⟨w1.heap.size,0,none⟩) 1 1)) w2:=by
 have hx:=h.at_.lt;have hs:=hb.size;exact⟨X,Y,rfl,rfl,(h.below hb).below hb2,Chg.of_below (az hb hb2) _,fun _ hg=>.inl hg,.inl rfl,_,B,n,c,rfl,ha,hs,(hr.below hb2).up hb2.size,hl,fun hm=>by have:=hx _ hm;omega,fun a ha hm=>by have:=hx _ hm;have:=hl a ha;omega⟩
theorem kz24 {P S a oi v} (h:Hv P S a oi v:=by intro w hSw;(obtain⟨x,y,z⟩:=HK.out _ hSw;have x0:=x.c0;have y0:=y.c0;have y1:=y.c1;have y2:=y.c2;have y3:=y.c3;have y4:=y.c4;have y5:=y.c5;have z0:=z.box.c0;clear x y z);go_simp;try (with_reducible rfl)):Hv P S a oi v:=h
theorem kz25 {P S a oi v} (h:Hv P S a oi v:=by intro w hSw;(obtain⟨x,y,z,q⟩:=HK6.out _ hSw;have x0:=x.c0;have y4:=y.c4;have z1:=z.box.c1;have q1:=q.c1;clear x y z q);go_simp;try (with_reducible rfl)):Hv P S a oi v:=h
theorem sv4 (h:NdAt w X S Y V nb ni now grace) (hN:Nrm V) (frm:Int) (mi no:Nat) (A:Option Addr) (n c:Nat) (l:List It) (hg:(Mq.mk 4 frm ni mi no A n c).Good l) (hr:Row w.heap.size w A n 5 (itc l)) (hno:no≤255):
  Calls Tryz.prog 15 #[.pointer (some ⟨nb,0,none⟩),.agg #[.int .i64 4,.int .i64 frm,.int .i64 ni,.int .u64 (mi:Int),.int .u64 (no:Int),.slice A n c]] w (yw X Y w S V nb ni now grace frm mi (some (5,V.M.v.cert,V.st.filter fun a=>a.s==(no:Int)))):=by
 have HH:=H_ h;have hb1:=b_ w (.cells #[.pointer (some ⟨nb,0,none⟩)] 25);have hb2:=hb1.alloc (by simp) (.cells #[.int .i64 4,.int .i64 frm,.int .i64 ni,.int .u64 (mi:Int),.int .u64 (no:Int),.slice A n c] 33);have hx0:=(BoxO.new w #[.pointer (some ⟨nb,0,none⟩)] 25).alloc (.cells #[.int .i64 4,.int .i64 frm,.int .i64 ni,.int .u64 (mi:Int),.int .u64 (no:Int),.slice A n c] 33);have hx1:=BoxO.new (w.alloc (.cells #[.pointer (some ⟨nb,0,none⟩)] 25)) #[.int .i64 4,.int .i64 frm,.int .i64 ni,.int .u64 (mi:Int),.int .u64 (no:Int),.slice A n c] 33;rw[A_]at hx1;have h2:=h.below hb2;have hmf:∀(fn:Fn) (first cap:Array Value) (w:World),(Instr.makeFunc fn first cap).run Tryz.prog w=.ok (.func fn first cap) w:=fun _ _ _ _=>rfl;obtain⟨W,hW⟩:=n_ ((w.alloc (.cells #[.pointer (some ⟨nb,0,none⟩)] 25)).alloc (.cells #[.int .i64 4,.int .i64 frm,.int .i64 ni,.int .u64 (mi:Int),.int .u64 (no:Int),.slice A n c] 33));obtain⟨g0,hg0⟩:=n_ w.heap.size;rw[←hW]at hb2 hx0 hx1 h2;rw[←hg0]at hx0 hx1;have hmo:=fun W' (hb:Below W.heap.size W W')=>dx3 _ l W' hg ((((hr.below hb2).up hb2.size).below hb).up hb.size);unfold Mq.val at hmo;simp only at hmo;have HMO:=H_ hmo;have H2:=H_ h2;have HX:=H_ (d_ hx0 hx1);have HB:=H_ hb2;have HW:=H_ (d_ hW hg0);have HROW:=H_ ((hr.below hb2).up hb2.size);have HL:=H_ (d_ h.at_.lt (d_ h.box.lt h.at_.dm.env.base));have HK:=H_ (fun W' (hb:Below W.heap.size W W')=>d_ (hx0.below hb) (d_ (hx1.below hb) (h2.below hb)));clear hmo h2 hx0 hx1 hb1 hb2 hW hg0 hr h hg;go_enter Tryz.func15,Tryz.ntmps15;go_wp2_with fail;rw[←HW.out.1,←HW.out.2];refine wp_region_held_drew (S:=fun w'=>Below W.heap.size W w') rfl (ak b0_) (fun hSw=>?_);refine w_v 0 hSw ?_ (k:=kz24);go_simp;refine w_r 1 fun K hK=>?_;go_simp
 with_reducible refine(HMO.out _ hSw).mono ?_
 rintro e w3 ⟨rfl,hb3⟩;go_simp;refine hK.out _ _ (az hSw hb3) ?_;clear hSw hK K;intro hSw;go_simp;refine w_v 2 hSw ?_ (k:=kz24);go_simp;refine w_v 3 hSw ?_ (k:=kz24);go_simp;refine w_v 4 hSw ?_ (k:=kz24);go_simp;refine w_v 5 hSw ?_ (k:=kz24);go_simp;refine w_v 6 hSw ?_ (k:=kz24);go_simp;refine w_v 7 hSw ?_ (k:=kz24);go_simp;refine w_v 8 hSw ?_ (k:=kz24);go_simp;refine w_v 9 hSw ?_ (k:=kz24);go_simp;refine w_v 10 hSw ?_ (k:=kz24);go_simp;refine w_v 11 hSw ?_ (k:=kz24);go_simp;refine wpAnyH_done (by kernel_rfl) ?_ _;have hb4:=az (ak (Below.refl W.heap.size W)) hb3;clear hSw hb3 HMO;obtain⟨x,y,z⟩:=HK.out _ hb4;have x0:=x.c0;have z1:=z.box.c1;have HME:=H_ (xx z.at_ (by have:=hN.files;omega));have HB4:=H_ hb4;clear x y z hb4;go_wp2_with fail
 with_reducible refine HME.out.mono ?_
 rintro e w4 ⟨rfl,hb5⟩;obtain⟨mt,hmt⟩:=n_ (St.oz V);have HB5:=H_ (az HB4.out hb5);have hb6:=az HB5.out (b_ w4 (.cells #[.int .u64 (mt.floor:Int),.int .u64 (mt.cert:Int),.int .u64 (mt.at_:Int),.int .u64 (mt.lease:Int)] 47));have HX6:=H_ (BoxO.new w4 #[.int .u64 (mt.floor:Int),.int .u64 (mt.cert:Int),.int .u64 (mt.at_:Int),.int .u64 (mt.lease:Int)] 47);have HB6:=H_ hb6;rw[←hmt];unfold Mt.val;have HMT:=H_ hmt;clear hmt hb5 HME x0 z1 hb6;obtain⟨x,y,z⟩:=HK.out _ HB6.out;have x0:=x.c0;have y0:=y.c0;have y1:=y.c1;have y3:=y.c3;have y4:=y.c4;have y5:=y.c5;have z0:=z.box.c0;have z1:=z.box.c1;have e1:((no:Int)≤(255:Int))=True:=eq_true (by omega);have hwn:IntKind.i64.wrap (no:Int)=(no:Int):=F_ _ (by omega);obtain⟨W6,hW6⟩:=n_ (w4.alloc (.cells #[.int .u64 (mt.floor:Int),.int .u64 (mt.cert:Int),.int .u64 (mt.at_:Int),.int .u64 (mt.lease:Int)] 47));have HK6:Hid (∀W',Below W6.heap.size W6 W'→BoxO W' 25 g0 [.pointer (some ⟨nb,0,none⟩)]∧BoxO W' 33 (g0+1) [.int .i64 4,.int .i64 frm,.int .i64 ni,.int .u64 (mi:Int),.int .u64 (no:Int),.slice A n c]∧NdAt W' X S Y V nb ni now grace∧BoxO W' 47 w4.heap.size [.int .u64 (mt.floor:Int),.int .u64 (mt.cert:Int),.int .u64 (mt.at_:Int),.int .u64 (mt.lease:Int)]):=H_ (fun W' hb=>by
  rw[hW6]at hb;have q:=HK.out W' (az HB6.out hb);exact⟨q.1,q.2.1,q.2.2,HX6.out.below hb⟩)
 have HW6:=H_ hW6;have HAN:=H_ (fun W' (hb:Below W6.heap.size W6 W') B nn cc=>(by
  obtain⟨q1,q2,q3,_⟩:=HK6.out W' hb;exact ak1 g0 (g0+1) nb frm ni 5 mi mt.cert B nn cc W' (q1.cell 0) (q3.box.cell 0) (q2.cell 1) (q2.cell 3):Calls Tryz.prog 52 #[.int .i64 5,.int .u64 (mt.cert:Int),.slice B nn cc,.pointer (some ⟨g0,0,none⟩),.pointer (some ⟨g0+1,0,none⟩)] W' fun e w'=>e=.returned (.slice (some ⟨W'.heap.size,0,none⟩) 1 1)∧Below W'.heap.size W' w'∧Answ w' W'.heap.size 5 ni frm mi mt.cert B nn cc))
 have HSE:=H_ (fun W' (hb:Below W6.heap.size W6 W')=>uk2 (HK6.out W' hb).2.2.1.at_ (by have:=hN.len;omega) (no:Int));clear x y z hW6;go_wp2_with fail;rw[←HW6.out];clear x0 y0 y1 y3 y4 y5 z0 z1;refine wp_region_held_drew (S:=fun w'=>Below W6.heap.size W6 w') rfl (ak b0_) (fun hSw=>?_);refine w_v 0 hSw ?_ (k:=kz25);go_simp;refine w_v 1 hSw ?_ (k:=kz25);go_simp;refine w_v 2 hSw ?_ (k:=kz25);go_simp;refine w_v 3 hSw ?_ (k:=kz25);go_simp;refine w_v 4 hSw ?_ (k:=kz25);go_simp;refine w_v 5 hSw ?_ (k:=kz25);go_simp;refine w_v 6 hSw ?_ (k:=kz25);go_simp;refine w_v 7 hSw ?_ (k:=kz25);go_simp;refine w_v 8 hSw ?_ (k:=kz25);go_simp;refine w_v 9 hSw ?_ (k:=kz25);go_simp;refine w_r 10 fun K hK=>?_;go_simp
 with_reducible refine(HSE.out _ hSw).mono ?_
 rintro e w7 ⟨A7,k7,rfl,hk7,hi7,hb7⟩;clear hk7;go_simp;refine hK.out _ _ (az hSw hb7) ?_;clear hSw hK K;intro hSw;go_simp;refine w_r 11 fun K hK=>?_;go_simp
 with_reducible refine(HAN.out _ hSw A7 k7 k7).mono ?_
 rintro e w8 ⟨rfl,hb8,ha8⟩;go_simp;refine hK.out _ _ (az hSw hb8) ?_;clear hSw hK K;intro hSw;go_simp;refine w_v 12 hSw ?_ (k:=kz25);go_simp;refine wpAnyH_done (by kernel_rfl) ?_ _;have hb6:Below w.heap.size w W6:=HB.out.trans ((by rw[HW6.out];exact HB6.out:Below W.heap.size W W6).mono HB.out.size);have hz:yw X Y w S V nb ni now grace frm mi (some (5,V.M.v.cert,V.st.filter fun a=>a.s==(no:Int))) (.returned (.slice (some ⟨w7.heap.size,0,none⟩) 1 1)) w8:=by
  have e2:V.M.v.cert=mt.cert:=by rw[HMT.out];rfl
  rw[e2];have hb67:Below w.heap.size w w7:=az hb6 (az (ak b0_) hb7);exact HH.out.told hb67 hi7.row (fun a ha=>h_ hb6.size (hi7.low a ha)) hb8 ha8
 have HZ:=H_ hz;clear hz hb6 hSw hb7 hi7 hb8 ha8 HAN HSE;go_wp2;go_ret;exact HZ.out
end
end Go.Proofs.YthjdpplgfdihoaaGreatDoor
