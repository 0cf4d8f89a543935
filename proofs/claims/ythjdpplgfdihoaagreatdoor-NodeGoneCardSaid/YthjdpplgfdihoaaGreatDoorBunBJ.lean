/- Texts TickA in one. No conditions. -/
import Derived.Test.YthjdpplgfdihoaaGreatDoorBunBG
import Derived.Test.YthjdpplgfdihoaaGreatDoorBunBI

set_option linter.unusedSimpArgs false
set_option linter.unusedVariables false
set_option maxRecDepth 100000
set_option maxHeartbeats 16000000
namespace Go.Proofs.YthjdpplgfdihoaaGreatDoor
section
open Go Go.RowKit Go.Lib Go.Shelf
variable {w w1 w2:World} {X X1 X2:Dw} {S S1 S2:Sd} {Y Y1 Y2:Yw} {V V1 V2:Sv} {nb now grace:Nat} {ni:Int}
theorem fw4 {e:TypeId} {g B n:Nat} {xs:List Value} {A:Option Addr} {l:List It} (hb:BoxO w e g xs) (hl:xs.length≤4) (hr:Row B w A n 5 (itc l)):∀j,j < (itc l).length→∀a,A=some a→a.block∉[g]:=by
 intro j hj a ha hg;have hg:=c_.1 hg;obtain⟨a',e',_,hc⟩:=hr.cell 4 (by rw[iw]at hj ⊢;omega);rw[ha]at e';injection e' with e';subst e';have e4:a.add 4=⟨g,a.off+4,none⟩:=by rw[←hg];simp[Addr.add]
 rw[e4,hb.cell,List.getElem?_eq_none (by omega)]at hc
 cases hc
theorem nv4 {g B n:Nat} {i:Int} {p:Option Addr} {b c:Int} {A:Option Addr} {fs:List (Int×Int)} (hb:BoxO w 101 g [.int .i64 i,.pointer p,.int .u64 b,.int .u64 c]) (hr:Row B w A n 2 (ax fs)):∀j,j < (ax fs).length→∀a,A=some a→a.block∉[g]:=by
 intro j hj a ha hg;have hg:=c_.1 hg
 cases fs with
 |nil=>simp[ax]at hj
 |cons f fs=>
  obtain⟨a',e',_,hc⟩:=hr.cell 1 (by simp[ax]);rw[ha]at e';injection e' with e';subst e';have e4:a.add 1=⟨g,a.off+1,none⟩:=by rw[←hg];simp[Addr.add]
  rw[e4,hb.cell]at hc;have hv:(ax (f::fs))[1]'(by simp[ax])=.int .i64 f.2:=rfl;rw[hv]at hc
  rcases T_ a.off 3 with h|h
  ·rcases (show a.off=0∨a.off=1∨a.off=2 by omega) with h|h|h<;>rw[h]at hc<;>simp at hc
  ·rw[List.getElem?_eq_none (by simp;omega)]at hc
   cases hc
theorem qx.small {F:List Nat} {A:Option Addr} {n c g:Nat} {e:TypeId} {xs:List Value} {l:List It} (h:qx F w fun w=>Its 0 w A n c l) (hb:BoxO w e g xs) (hl:xs.length≤4) (k:Chg [g] w w1):qx F w1 fun w=>Its 0 w A n c l:=fun w2 k2=>by
 have hsz:=h_ k.size k2.size;have hg:=hb.lt;have hk:(back w w2 [g]).heap[g]?=w.heap[g]?:=bj4 (c_.2 rfl) hg (L_ hg hsz);have h1:=h (back w w2 [g]) ⟨k2.os.trans k.os,k2.tape.trans k.tape,k2.output.trans k.output,by rw[bv1];exact hsz,fun r hr hF=>by
  by_cases hm:r∈[g]
  ·rw[c_.1 hm];exact hk
  ·rw[vx1 hm,k2.block r (L_ hr k.size) hF,k.block r hr hm]⟩
 refine⟨?_,h1.nc,h1.cm,h1.low⟩;have hr:=h1.row;rw[bv1]at hr;exact oq (F:=[g]) (w:=back w w2 [g]) (w':=w2) ⟨rfl,rfl,rfl,by rw[bv1];exact x_ _,fun r _ hm=>(vx1 hm).symm⟩ hr (by rw[bv1];exact x_ _) (fw4 (show BoxO (back w w2 [g]) e g xs from hk.trans hb) hl hr)
theorem NdAt.ez5 (h:NdAt w X S Y V nb ni now grace) (ht:V.tabs=[]) (hng:NG≤nb) (n1:Nat):NdAt (w.setCell ⟨nb,2,none⟩ (.int .u64 (n1:Int))) X S Y V nb ni n1 grace∧Chg [nb] w (w.setCell ⟨nb,2,none⟩ (.int .u64 (n1:Int))):=by
 have c:Chg [nb] w (w.setCell ⟨nb,2,none⟩ (.int .u64 (n1:Int))):=(Chg.refl _ _).setCell _ (.inl (by simp));have hs:=h.at_;have hb:=h.box;have hf:∀g∈Y.foot,g∉[nb]:=fun g h1 h2=>h.out (by rw[←c_.1 h2];exact k_ _ h1);refine⟨⟨⟨hs.dm.chg c (fun g hg=>by rw[c_.1 hg];exact⟨fun hm=>h.out (s_ _ hm),hng⟩),hs.box.chg c (hf _ (Yw.aj.2 (.inl rfl))),hs.man.chg c (hf _ (Yw.aj.2 (.inr (.inl rfl)))),⟨(oq c hs.row.row l_ (nv4 hb hs.row.row)).up c.size,hs.row.nc,hs.row.cm,hs.row.nb,hs.row.away⟩,hs.pout,hs.log.chg c (hf _ (Yw.aj.2 (.inr (.inr (.inl rfl))))),hs.mem.chg c (fun g hg=>hf g (Yw.aj.2 ?_)),hs.its,?_,hs.st.small hb (by simp) c,hs.apart,hs.ng⟩,hb.store 2 (.int .u64 (n1:Int)),h.out⟩,c⟩
 ·rcases g_.1 hg with rfl|hg
  ·exact .inr (.inr (.inr (.inl rfl)))
  ·exact .inr (.inr (.inr (.inr hg)))
 ·have:=hs.tabs.now
  rw[ht]at this ⊢;exact fun w2 _=>this.none w2
def St.tick (S:Sd) (V:Sv) (n1 grace:Nat):Sd×Sv×Nat:=
 if (St.oz V).collect n1 grace=0∨(fz1 V.st ((St.oz V).collect n1 grace)).length=V.st.length then (S,V,0) else St.pk1 S V ((St.oz V).collect n1 grace)
def xz3 (X:Dw) (Y:Yw) (w:World) (R:Sd×Sv×Nat) (nb:Nat) (ni:Int) (n1 grace:Nat) (e:Ending) (w':World):Prop:=
 e=.returned (.int .i64 (R.2.2:Int))∧∃X1 Y1,X1.d=X.d∧Y1.s=Y.s∧NdAt w' X1 R.1 Y1 R.2.1 nb ni n1 grace∧Chg (nb::XY X Y) w w'∧∀g∈XY X1 Y1,g∈XY X Y∨w.heap.size≤g
theorem kz7 {P S a oi v} (h:Hv P S a oi v:=by intro w hSw;(obtain⟨q1,q2,q3⟩:=HKC.out _ hSw);go_simp;try (with_reducible rfl)):Hv P S a oi v:=h
theorem wz3 (h:NdAt w X S Y V nb ni now grace) (ht:V.tabs=[]) (hng:NG≤nb) (hnow:now≤1099511627776) (hst:V.st.length≤2000) (hfl:V.M.v.files.length≤40) (n1:Nat) (hn1:n1=min (now+1) 1099511627776)
  (hpu:(St.oz V).collect n1 grace≠0→(fz1 V.st ((St.oz V).collect n1 grace)).length≠V.st.length→∀w' Y' X',SvAt w' X' S Y' V→Calls Tryz.prog 69 #[.pointer (some ⟨Y'.s,0,none⟩),.int .u64 ((((St.oz V).collect n1 grace):Nat):Int)] w' (cv1 X' Y' w' (St.pk1 S V ((St.oz V).collect n1 grace)))):
  Calls Tryz.prog 36 #[.pointer (some ⟨nb,0,none⟩)] w (xz3 X Y w (St.tick S V n1 grace) nb ni n1 grace):=by
 obtain⟨R,hR⟩:=n_ (St.tick S V n1 grace);rw[←hR];unfold St.tick at hR;obtain⟨h1,c1⟩:=h.ez5 ht hng n1;obtain⟨W,hW⟩:=n_ (w.setCell ⟨nb,2,none⟩ (.int .u64 (n1:Int)));have hk2:=h.box.c2;have hf2:=h.box.free 2;have hmin:min ((now:Int)+1) 1099511627776=(n1:Int):=by omega
 have hwr:IntKind.u64.wrap ((now:Int)+1)=(now:Int)+1:=aY_ _ (by omega);rw[←hW]at h1 c1;obtain⟨v,hv⟩:=n_ ((St.oz V).collect n1 grace);rw[←hv]at hR hpu;have hme:=fun W' (hb:Below W.heap.size W W')=>xx (h1.below hb).at_ (by omega);have hfc:=fun W'=>uy2 (St.oz V) n1 grace W';rw[←hv]at hfc;have hkc:∀W',Below W.heap.size W W'→W'.cell? ⟨nb,1,none⟩=some (.pointer (some ⟨Y.s,0,none⟩))∧W'.cell? ⟨nb,2,none⟩=some (.int .u64 (n1:Int))∧W'.cell? ⟨nb,3,none⟩=some (.int .u64 (grace:Int)):=fun W' hb=>by
  have q:=(h1.below hb).box;exact⟨q.cell 1,q.cell 2,q.cell 3⟩
 have HME:=H_ hme;have HFC:=H_ hfc;have HKC:=H_ hkc;have H1:=H_ h1;have HC1:=H_ c1;have HPU:=H_ hpu;have HR:=H_ hR;have HST:=H_ hst;have HW:=H_ hW;clear hme hfc hkc h1 c1 hpu hR hv hn1 h hst hfl hW ht;go_enter Tryz.func36,Tryz.ntmps36;go_wp2_with fail;rw[←HW.out];clear hk2 hf2;have hbA:Below W.heap.size W W.drew:=ak b0_;refine wp_region_held_drew (S:=fun w'=>Below W.heap.size W w') rfl hbA (fun hSw=>?_);refine w_v 0 hSw ?_ (k:=kz7);go_simp;refine w_v 1 hSw ?_ (k:=kz7);go_simp;refine w_v 2 hSw ?_ (k:=kz7);go_simp;refine w_v 3 hSw ?_ (k:=kz7);go_simp;refine w_v 5 hSw ?_ (k:=kz7);go_simp;refine w_v 6 hSw ?_ (k:=kz7);go_simp;refine w_v 7 hSw ?_ (k:=kz7);go_simp;refine w_v 8 hSw ?_ (k:=kz7);go_simp;refine w_v 9 hSw ?_ (k:=kz7);go_simp;refine w_v 10 hSw ?_ (k:=kz7);go_simp;refine w_v 11 hSw ?_ (k:=kz7);go_simp;refine w_v 12 hSw ?_ (k:=kz7);go_simp;refine w_r 4 fun K hK=>?_;go_simp
 with_reducible refine(HME.out _ hSw).mono ?_
 rintro e w2 ⟨rfl,hb2⟩;go_simp;refine hK.out _ _ (az hSw hb2) ?_;clear hSw hK K;intro hSw;go_simp;refine w_r 13 fun K hK=>?_;go_simp
 with_reducible refine(HFC.out _).mono ?_
 rintro e w3 ⟨rfl,hb3⟩;go_simp;refine hK.out _ _ (az hSw hb3) ?_;clear hSw hK K;intro hSw;go_simp;refine w_v 14 hSw ?_ (k:=kz7);go_simp;refine wpAnyH_done (by kernel_rfl) ?_ _;have h3:=H1.out.below hSw;have k1:=h3.box.c1;have hsa:=gj2 h3 (by have:=HST.out;omega);have hsa2:=dz1 h3.at_ (by have:=HST.out;omega);have HSA:=H_ hsa2;have H3:=H_ h3;have HB3:=H_ hSw;clear hsa hsa2 h3 hSw hbA HME HFC HKC;go_wp2_with fail
 with_reducible refine HSA.out.mono ?_
 rintro e w4 ⟨A4,c4,rfl,ho4,hb4⟩;have hw4:=az HB3.out hb4;have h4:=H3.out.below hb4;have hfin:∀w',Below w4.heap.size w4 w'→R=(S,V,0)→xz3 X Y w R nb ni n1 grace (.returned (.int .i64 0)) w':=fun w' hb hr=>by
  rw[hr];exact⟨rfl,X,Y,rfl,rfl,h4.below hb,(HC1.out.mono fun g hg=>.inl (by rw[c_.1 hg];exact m_)).trans (Chg.of_below (az hw4 hb) []) (fun g hg=>by cases hg),fun g hg=>.inl hg⟩
 have HFIN:=H_ hfin
 by_cases hv0:v=0
 ·have e1:((v:Int)==0)=true:=by simp[hv0]
  have HZ:=H_ (HFIN.out w4 b0_ (by rw[HR.out,if_pos (.inl hv0)]));clear hfin HFIN h4 hw4 hb4 ho4 hv0 HSA;go_wp2;go_ret;exact HZ.out
 ·have e1:((v:Int)==0)=false:=by simp;omega
  have hln:=HST.out;have hal:=h4.at_.alen;have hpg:=jx2 A4 Y.A.n c4 V.st v w4 (by omega) (Row.own ho4);have HPG:=H_ hpg;have HAL:=H_ hal;have H4:=H_ (d_ h4 hw4);clear hpg hal hln hfin h4 hw4 hb4 ho4 HSA;go_wp2_with fail
  with_reducible refine HPG.out.mono ?_
  rintro e w5 ⟨A5,k5,rfl,hk5,hi5,hb5⟩;have h5:=H4.out.1.below hb5;have q1:=h5.box.c1;have hw5:=az H4.out.2 hb5
  by_cases hl:k5=Y.A.n
  ·have e2:((k5:Int)==(Y.A.n:Int))=true:=by simp[hl]
   have HZ:=H_ (HFIN.out w5 hb5 (by rw[HR.out,if_pos (.inr (by rw[←hk5,hl,HAL.out]))]));clear hl hi5 hk5 hb5 h5 HPG HFIN H4 hw5;go_wp2;go_ret;exact HZ.out
  ·have e2:((k5:Int)==(Y.A.n:Int))=false:=by simp;omega
   have hR:=HR.out;rw[if_neg (fun h=>h.elim hv0 (fun h=>hl (by rw[hk5,h,HAL.out])))]at hR;have hpp:=HPU.out hv0 (fun h=>hl (by rw[hk5,h,HAL.out])) w5 Y X h5.at_;rw[←hR]at hpp;have HPP:=H_ hpp;have H5:=H_ (d_ h5 hw5);clear hl hi5 hk5 hb5 h5 hw5 hpp hR HPG HFIN H4 HPU hv0;go_wp2_with fail
   with_reducible refine HPP.out.mono ?_
   rintro e w6 ⟨rfl,X6,Y6,e6,es6,h6,c6,f6⟩;have HZ:Hid (xz3 X Y w R nb ni n1 grace (.returned (.int .i64 (R.2.2:Int))) w6):=H_ (by
    obtain⟨h5,hw5⟩:=H5.out;have hcw:Chg (nb::XY X Y) w w5:=(HC1.out.mono fun g hg=>.inl (by rw[c_.1 hg];exact m_)).trans (Chg.of_below hw5 []) (fun g hg=>by cases hg);have hb6:=h5.box.chg c6 h5.out;rw[←es6]at hb6;exact⟨rfl,X6,Y6,e6,es6,⟨h6,hb6,fun hm=>(f6 _ hm).elim h5.out (fun h=>by have:=h5.box.lt;omega)⟩,hcw.trans c6 (fun g hg=>.inl (f_ _ hg)),fun g hg=>(f6 g hg).imp (fun z=>z) (h_ hcw.size)⟩)
   clear h6 c6 f6 e6 es6 HPP H5;go_wp2;go_ret;exact HZ.out
end
end Go.Proofs.YthjdpplgfdihoaaGreatDoor
