/- Texts TableA, PlainFit, TableB, LogA, RowsN, RangeTwo in one. No conditions. -/
import Derived.Test.YthjdpplgfdihoaaGreatDoorBunAP
import Derived.Test.YthjdpplgfdihoaaGreatDoorBunAO
import Derived.Test.YthjdpplgfdihoaaGreatDoorBunAQ

set_option linter.unusedSimpArgs false
set_option linter.unusedVariables false
set_option maxRecDepth 100000
set_option maxHeartbeats 16000000
namespace Go.Proofs.YthjdpplgfdihoaaGreatDoor
section
open Go Go.RowKit Go.Lib
theorem Tb.bj3 (l:List (List It)) (r:List It):Tb.blocks (l++[r])=Tb.blocks l++Fr.put 2 (It.bytes r):=by simp[Tb.blocks]
theorem Tb.fx2:∀(p:Nat) (l:List (List It)) (r:List It),Tb.index p (l++[r])=(Tb.index p l++Pn.put (p+(Tb.blocks l).length))++It.bytes (r.take 1)
 |p,[],r=>by simp[Tb.index,Tb.blocks]
 |p,x::l,r=>by
  have h:=Tb.fx2 (p+(Fr.put 2 (It.bytes x)).length) l r;show Pn.put p++(It.bytes (x.take 1)++Tb.index (p+(Fr.put 2 (It.bytes x)).length) (l++[r]))=_
  rw[h];have e:p+(Tb.blocks (x::l)).length=p+(Fr.put 2 (It.bytes x)).length+(Tb.blocks l).length:=by
   simp only[Tb.blocks,M_,e_];omega
  rw[e];show _=((Pn.put p++(It.bytes (x.take 1)++Tb.index (p+(Fr.put 2 (It.bytes x)).length) l))++_)++_
  simp only[D_]
theorem Tb.ry1:∀(l:List (List It)),(∀r∈l,r.length≤20)→(Tb.blocks l).length≤662 *l.length
 |[],_=>by simp[Tb.blocks]
 |r::l,h=>by
  have h1:=Tb.ry1 l (fun x hx=>h x (f_ _ hx));have h2:=It.aq1 r;have h3:=h r m_;have e:(Tb.blocks (r::l)).length=(Fr.put 2 (It.bytes r)).length+(Tb.blocks l).length:=by simp[Tb.blocks]
  rw[e,Fr.uj,r_];omega
theorem Tb.uw2 (l:List It):(Tb.bits l).length=Tb.cy2 l.length:=by
 unfold Tb.bits;have h:∀(l:List It) (b:List UInt8),(l.foldl (fun b a=>Tb.addKey b a.key) b).length=b.length:=fun l b=>fy3 l b;rw[h,bQ_]
theorem Tb.iv3 (l:List It) (h:l.length≤2000):(Tb.filt l).length≤3000:=by
 have h1:=Pn.ik 7;have h2:=Pn.ik (Tb.bits l).length;have h3:=Tb.uw2 l;unfold Tb.filt;simp only[e_];unfold Tb.cy2 at h3;omega
def bx4 (w:World) (l:List It) (e:Ending) (w':World):Prop:=
 (Tb.good l=true∧∃A' M c',e=.returned (.tuple #[.slice A' M c',.int .i64 0])∧w'.ownsRow w.heap.size 5 1 (.slice A' M c') M (bts (Tb.make l))∧M≤c'∧c'≤maxLen∧Below w.heap.size w w')∨
 (Tb.good l=false∧∃er:Nat,er≠0∧e=.returned (.tuple #[.slice none 0 0,.int .i64 (er:Int)])∧Below w.heap.size w w')
theorem ek2 (L:Option Addr) (m d:Nat) (l:List It) (w:World) (hm:m≤1000000) (hmd:m≤d) (hq:Row w.heap.size w L m 5 (itc l)) (hf:∀x∈l,x.fit):
  Calls Tryz.prog 212 #[.slice L m d] w (bx4 w l):=by
 have hmn:=hq.uz;have hri:=jj2 L m d l w hm hq;have hca:=fun(W:World) (hb:Below w.heap.size w W)=>qy1 261 (fun _ _=>rfl) #[] (fun x=>!x.ok) L m d l W hm ((hq.below hb).up hb.size) (fun x w1 _=>rw3 x w1);simp only[lw2]at hca;obtain⟨rb,hrb⟩:=n_ (decide (uq l));obtain⟨ab,hab⟩:=n_ (l.all It.ok);have hgd:Tb.good l=(decide (m≤2000) &&rb&&ab):=by unfold Tb.good;rw[hrb,hab,hmn]
 have hgood:∀{b},Tb.good l=b→(decide (m≤2000) &&rb&&ab)=b:=fun e=>by rw[←hgd];exact e
 have hbad:∀w' (er:Nat),(decide (m≤2000) &&rb&&ab)=false→er≠0→Below w.heap.size w w'→bx4 w l (.returned (.tuple #[.slice none 0 0,.int .i64 (er:Int)])) w':=fun w' er h1 h2 h3=>.inr ⟨by rw[hgd];exact h1,er,h2,rfl,h3⟩;have hct:=fun(hm2:m≤2000) (W:World) (hb:Below w.heap.size w W)=>kk4 L m d l W hm2 hmd ((hq.below hb).up hb.size);have hfi:=fun(hm2:m≤2000) (hk:∀x∈l,x.ok=true) (W:World) (hb:Below w.heap.size w W)=>yk2 L m d l W hm2 ((hq.below hb).up hb.size) hk;rw[←hrb]at hri;rw[←hab]at hca;have hokl:ab=true→∀x∈l,x.ok=true:=fun h=>by rw[hab]at h;exact fun x hx=>al_.1 h x hx
 have HGD:=H_ hgd;have HBAD:=H_ hbad;have HRI:=H_ hri;have HCA:=H_ hca;have HCT:=H_ hct;have HFI:=H_ hfi;have HOK:=H_ hokl;clear hgd hgood hbad hri hca hct hfi hokl hrb hab
 by_cases hm2:m≤2000
 ·have hd:decide (m≤2000)=true:=decide_eq_true hm2
  have hmi:((2000:Int) < (m:Int))=False:=eq_false (by omega);simp only[hd,b8_]at HGD HBAD;go_enter Tryz.func212,Tryz.ntmps212;go_wp2_with fail;refine HRI.out.mono ?_;rintro e w1 ⟨rfl,hb1⟩
  cases rb with
  |false=>
   go_wp2;go_ret2;exact HBAD.out _ 1 rfl (by omega) hb1
  |true=>
   go_wp2_with fail;refine(HCA.out _ hb1).mono ?_;rintro e w2 ⟨rfl,hb2⟩;have hbz:=az hb1 hb2
   cases ab with
   |false=>
    go_wp2;go_ret2;exact HBAD.out _ 1 rfl (by omega) hbz
   |true=>
    go_wp2_with fail;refine(HCT.out hm2 _ hbz).mono ?_;rintro e w3 ⟨P,K,cp,rfl,hKc,hcp,hrows,hb3⟩;have hgo:Tb.good l=true:=HGD.out;have hw3:=az hbz hb3;obtain⟨R,hR⟩:=n_ (Tb.rows l);have hR2:Tb.cut 20 m l=R:=by rw[hR];unfold Tb.rows;rw[hmn]
    rw[hR2]at hrows;have hKR:=hrows.len;have hK100:K≤100:=by
     have h1:=Tb.wk1 20 (by omega) m l;rw[hR2,hKR,hmn]at h1;omega
    have hmay:∀r∈R,Tb.may r=true∧r.length≤20∧r≠[]∧∀y∈r,y.ok=true∧y.fit:=fun r hr=>by
     have h1:=Tb.fj3 hgo hf r (by rw[←hR];exact hr);obtain⟨h2,h3,_⟩:=Tb.nk2 20 (by omega) m l r (by rw[hR2];exact hr);refine⟨h1.1,h3,h2,fun y hy=>⟨?_,h1.2.2 y hy⟩⟩;have h4:=h1.1;simp only[Tb.may,K_,al_]at h4;exact h4.2 y hy
    have HH:=H_ (d_ hrows (d_ hw3 (d_ hmay (d_ hgo hR))));clear hrows hw3 hmay hgo hR hR2 hbz hb1 hb2 hb3 HCT HCA HRI HBAD HGD;go_wp2_with fail
    go_loopw [4,5,24] (fun s4 s5 i wr=>∃(k n4 c4 n5 c5:Nat) (A4 A5:Option Addr),k≤K∧s4=.slice A4 n4 c4∧s5=.slice A5 n5 c5∧i=.int .i64 (k:Int)∧n4≤66200∧n5≤5200∧
      Hid (n4=(Tb.blocks (R.take k)).length∧Row wr.heap.size wr A4 n4 1 (bts (Tb.blocks (R.take k)))∧n4≤c4∧c4≤maxLen∧Row wr.heap.size wr A5 n5 1 (bts (Tb.index 0 (R.take k)))∧n5≤c5∧c5≤maxLen∧Below w3.heap.size w3 wr))
     (fun _ _ i _=>K - (intOf i).toNat)
    case atStart=>exact⟨0,0,0,0,0,none,none,by omega,rfl,rfl,rfl,by omega,by omega,H_ ⟨by simp[Tb.blocks],Row.nil_,x_ _,t_ _,Row.nil_,x_ _,t_ _,Below.refl _ _⟩⟩
    case round=>
     obtain⟨k,n4,c4,n5,c5,A4,A5,hkK,rfl,rfl,rfl,hn4,hn5,HB0⟩:=hrel;have HN4:=H_ HB0.out.1;have HB:=H_ HB0.out.2;clear HB0
     by_cases hlt:k < K
     ·have hki:(k:Int) < (K:Int):=by omega
      have hwk:IntKind.i64.wrap (k:Int)=(k:Int):=F_ _ (by omega);obtain⟨a,A,n,c,hl,rfl,hab,hcl,hnc,hcc,hrow⟩:=(HH.out.1.below HB.out.2.2.2.2.2.2).at_ hlt;obtain⟨hmr,hl20,hne,hokr⟩:=HH.out.2.2.1 _ (v_ hl);have htk:R.take (k+1)=R.take k++[R[k]]:=o_ hl;generalize R[k]=r at *;have hnr:=hrow.uz;have hn0:0 < n:=by
       rcases ad_ n with h|h
       ·exact absurd (U_.1 (by omega)) hne
       ·exact h
      have h1c:(1:Int)≤(c:Int):=by omega
      have hwu:IntKind.u64.wrap (n4:Int)=(n4:Int):=by simp[IntKind.wrap_u64];omega
      have hrw:Row wr.heap.size wr A n 5 (itc r):=hrow.up HB.out.2.2.2.2.2.2.size;have hr1:Row wr.heap.size wr A 1 5 (itc (r.take 1)):=by rw[bz1];exact hrw.pre (by omega)
      have hp:=put_any A5 n5 c5 (Tb.index 0 (R.take k)) n4 (by omega) wr (by omega) HB.out.2.2.2.1;obtain⟨n6,hn6⟩:=n_ (n5+(Pn.put n4).length);rw[←hn6]at hp;have hn6b:n6≤5300:=by have:=Pn.ik n4;omega
      clear hn6;have HP:=H_ hp;have HR1:=H_ hr1;have HRW:=H_ hrw;have HT:=H_ (d_ htk (d_ hmr hokr));have HNR:=H_ hnr;have HKR:=H_ hKR;clear hp hr1 hrw htk hmr hokr hrow hne hnr hKR;go_wp2_with fail;refine HP.out.mono ?_;rintro e w4 ⟨A6,c6,rfl,ho6,hc6,hm6,hb6⟩;have hib:=sx1 A6 n6 c6 (Tb.index 0 (R.take k)++Pn.put n4) A 1 c (r.take 1) w4 (by omega) (by omega) (Row.own ho6) ((HR1.out.below hb6).up hb6.size) (fun x hx=>HT.out.2.2 x (aN_ hx));have HIB:=H_ hib;have HB6:=H_ hb6;clear hib ho6 hb6 HP HR1;go_wp2_with fail;refine HIB.out.mono ?_;rintro e w5 ⟨A7,n7,c7,rfl,ho7,hc7,hm7,hb7⟩;have hb45:=az HB6.out hb7;have hbp:=mk4 A4 n4 c4 (Tb.blocks (R.take k)) A n c r w5 (by omega) HB.out.2.1 HB.out.2.2.1 (by have:=HNR.out;omega) ((HB.out.1.below hb45).up hb45.size) ((HRW.out.below hb45).up hb45.size) HT.out.2.1 (fun x hx=>(HT.out.2.2 x hx).2);have HBP:=H_ hbp;have HO7:=H_ (d_ (Row.own ho7) (d_ hc7 (d_ hm7 hb45)));clear hbp ho7 hb45 hb7 HIB HB6;go_wp2_with fail;refine HBP.out.mono ?_;rintro e w6 ⟨A8,n8,c8,rfl,ho8,hc8,hm8,hb8⟩;have hb46:=az HO7.out.2.2.2 hb8;have hrA:=Row.own ho8;have hrB:=(HO7.out.1.below hb8).up hb8.size;have hfin:Tb.blocks (R.take (k+1))=Tb.blocks (R.take k)++Fr.put 2 (It.bytes r):=by rw[HT.out.1,Tb.bj3]
      have hfin2:Tb.index 0 (R.take (k+1))=(Tb.index 0 (R.take k)++Pn.put n4)++It.bytes (r.take 1):=by rw[HT.out.1,Tb.fx2,ag_,HN4.out]
      rw[←hfin]at hrA;rw[←hfin2]at hrB;have hlA:=hrA.xk;have hlB:=hrB.xk;have hkl:(R.take (k+1)).length≤100:=by rw[u_];have:=HKR.out;omega
      have hlA2:=Tb.ry1 (R.take (k+1)) (fun x hx=>(HH.out.2.2.1 x (aN_ hx)).2.1);have hlB2:=Tb.oq1 0 (R.take (k+1));have h8b:n8≤66200:=by omega
      have h7b:n7≤5200:=by omega
      have HF:=H_ (d_ hlA.symm (d_ hrA (d_ hc8 (d_ hm8 (d_ hrB (d_ HO7.out.2.1 (d_ HO7.out.2.2.1 (az HB.out.2.2.2.2.2.2 hb46))))))));clear hb46 hrA hrB hfin hfin2 hlA hlB hlA2 hlB2 hb8 ho8 HO7 HBP;go_wp2;go_roundw
      case rel=>exact⟨k+1,n8,c8,n7,c7,A8,A7,by omega,rfl,rfl,by go_num,h8b,h7b,HF⟩
      case measure=>simp[intOf];omega
     ·have hki:((k:Int) < (K:Int))=False:=eq_false (by omega)
      have hall:R.take k=R:=i_ (by omega);rw[hall]at HB HN4;clear hall;have hwm:IntKind.u64.wrap (m:Int)=(m:Int):=by simp[IntKind.wrap_u64];omega
      have hwu:IntKind.u64.wrap (n4:Int)=(n4:Int):=by simp[IntKind.wrap_u64];omega
      have hp:=put_any none 0 0 [] n4 (by omega) wr (by omega) Row.nil_;simp only[ag_,y_]at hp;have hq0:=((hq.below HH.out.2.1).up HH.out.2.1.size).below HB.out.2.2.2.2.2.2;have hq1:=hq0.up HB.out.2.2.2.2.2.2.size;obtain⟨n6,hn6⟩:=n_ ((Pn.put n4).length);rw[←hn6]at hp;have hn6b:n6≤10:=by have:=Pn.ik n4;omega
      have HP:=H_ hp;have HQ:=H_ hq1;clear hp hn6 hq0 hq1 hq;go_wp2_with fail;refine HP.out.mono ?_;rintro e w4 ⟨A6,c6,rfl,ho6,hc6,hm6,hb6⟩;have hfp:=iv1 A4 n4 c4 (Tb.blocks R) 3 A5 n5 c5 (Tb.index 0 R) w4 (by omega) HB.out.2.1 HB.out.2.2.1 ((HB.out.1.below hb6).up hb6.size) (by omega) (by omega) (by omega) HB.out.2.2.2.2.1 HB.out.2.2.2.2.2.1 ((HB.out.2.2.2.1.below hb6).up hb6.size);have HFP:=H_ hfp;have HO6:=H_ (d_ (Row.own ho6) hb6);clear hfp ho6 hb6 HP;go_wp2_with fail;refine HFP.out.mono ?_;rintro e w5 ⟨A7,n7,c7,rfl,ho7,hc7,hm7,hb7⟩;have hb57:=az HO6.out.2 hb7;have hr7:=Row.own ho7;have hl7:n7≤71412:=by
       have h1:=hr7.xk;have h2:=HB.out.1.xk;have h3:=HB.out.2.2.2.1.xk;rw[e_,Fr.uj]at h1;omega
      have hl7e:=hr7.xk;have hw7:IntKind.u64.wrap (n7:Int)=(n7:Int):=by simp[IntKind.wrap_u64];omega
      have hp2:=put_any A6 n6 c6 (Pn.put n4) n7 (by omega) w5 (by omega) ((HO6.out.1.below hb7).up hb7.size);obtain⟨n8,hn8⟩:=n_ (n6+(Pn.put n7).length);rw[←hn8]at hp2;have hn8b:n8≤20:=by have:=Pn.ik n7;omega
      have HP2:=H_ hp2;have HO7:=H_ (d_ hr7 (d_ hc7 (d_ hm7 (d_ hb57 hl7e))));clear hp2 hn8 hr7 hb57 hl7e ho7 hb7 HO6 HFP;go_wp2_with fail;refine HP2.out.mono ?_;rintro e w6 ⟨A8,c8,rfl,ho8,hc8,hm8,hb8⟩;have hb36:=HB.out.2.2.2.2.2.2.trans ((az HO7.out.2.2.2.1 hb8).mono HB.out.2.2.2.2.2.2.size);have hfi:=HFI.out hm2 (HOK.out trivial) w6 (az HH.out.2.1 hb36);have HF1:=H_ hfi;have HO8:=H_ (d_ (Row.own ho8) (d_ hb8 hb36));clear hfi ho8 hb8 hb36 HP2;go_wp2_with fail;refine HF1.out.mono ?_;rintro e w7 ⟨f,g,rfl,hbl,hfw,hgw,hb9⟩;have hbs:(Tb.bits l).length≤3000:=by rw[Tb.uw2];unfold Tb.cy2;omega
      have hbb:=bw3 f g (Tb.bits l) w7 hbl hbs;have HBB:=H_ hbb;have HB9:=H_ hb9;clear hbb hbl hfw hgw hb9 HF1 hbs;go_wp2_with fail;refine HBB.out.mono ?_;rintro e w8 ⟨A10,n10,c10,rfl,ho10,hc10,hm10,hb10⟩;have hb68:=az HB9.out hb10;have hb58:=az HO8.out.2.1 hb68;have hr10:=Row.own ho10;have hl10:n10≤3000:=by
       have h1:=hr10.xk;have h2:=Tb.iv3 l (by omega);rw[←h1];exact h2
      have hfp2:=iv1 A7 n7 c7 (Tb.blocks R++Fr.put 3 (Tb.index 0 R)) 4 A10 n10 c10 (blb (Tb.bits l)) w8 (by omega) HO7.out.2.1 HO7.out.2.2.1 ((HO7.out.1.below hb58).up hb58.size) (by omega) (by omega) (by omega) hc10 hm10 hr10;have HFP2:=H_ hfp2;have HO9:=H_ (d_ hb58 (d_ hb68 hr10.xk));clear hfp2 ho10 hr10 hb68 hb58 hb10 HBB HB9;go_wp2_with fail;refine HFP2.out.mono ?_;rintro e w9 ⟨A11,n11,c11,rfl,ho11,hc11,hm11,hb11⟩;have hr11:=Row.own ho11;have hl11:n11≤74424:=by
       have h1:=hr11.xk;rw[e_,Fr.uj,HO7.out.2.2.2.2,HO9.out.2.2]at h1;omega
      have hb69:=az HO9.out.2.1 hb11;have hp3:=put_any A8 n8 c8 (Pn.put n4++Pn.put n7) m (by omega) w9 (by omega) ((HO8.out.1.below hb69).up hb69.size);obtain⟨n12,hn12⟩:=n_ (n8+(Pn.put m).length);rw[←hn12]at hp3;have hn12b:n12≤30:=by have:=Pn.ik m;omega
      have HP3:=H_ hp3;have HO11:=H_ (d_ hr11 (d_ hc11 (d_ hm11 hb69)));clear hp3 hn12 hr11 hb69 ho11 hb11 HFP2;go_wp2_with fail;refine HP3.out.mono ?_;rintro e w10 ⟨A12,c12,rfl,ho12,hc12,hm12,hb12⟩;have hfp3:=iv1 A11 n11 c11 ((Tb.blocks R++Fr.put 3 (Tb.index 0 R))++Fr.put 4 (blb (Tb.bits l))) 5 A12 n12 c12 ((Pn.put n4++Pn.put n7)++Pn.put m) w10 (by omega) HO11.out.2.1 HO11.out.2.2.1 ((HO11.out.1.below hb12).up hb12.size) (by omega) (by omega) (by omega) hc12 hm12 (Row.own ho12);have HFP3:=H_ hfp3;have HO12:=H_ hb12;clear hfp3 ho12 hb12 HP3;go_wp2_with fail;refine HFP3.out.mono ?_;rintro e w11 ⟨A13,n13,c13,rfl,ho13,hc13,hm13,hb13⟩;have hz1:=az (HO8.out.2.2.trans ((az (az HO11.out.2.2.2 HO12.out) hb13).mono HO8.out.2.2.size)) b0_;have hz:=az HH.out.2.1 hz1;have hmk:((Tb.blocks R++Fr.put 3 (Tb.index 0 R))++Fr.put 4 (blb (Tb.bits l)))++Fr.put 5 ((Pn.put n4++Pn.put n7)++Pn.put m)=Tb.make l:=by
       have e1:=HN4.out;have e2:=HO7.out.2.2.2.2;unfold Tb.make;have e3:Tb.rows l=R:=HH.out.2.2.2.2.symm;show _=(Tb.blocks (Tb.rows l)++Fr.put 3 (Tb.index 0 (Tb.rows l)))++(Fr.put 4 (Tb.filt l)++Fr.put 5 (Pn.put (Tb.blocks (Tb.rows l)).length++(Pn.put (Tb.blocks (Tb.rows l)++Fr.put 3 (Tb.index 0 (Tb.rows l))).length++Pn.put l.length)))
       rw[e3,←e1,e2,hmn];simp only[D_];rfl
      rw[hmk]at ho13;have hob:=own_base ho13 (show w.heap.size≤w10.heap.size by have a1:=HH.out.2.1.size;have a2:=HO8.out.2.2.size;have a3:=HO11.out.2.2.2.size;have a4:=HO12.out.size;omega);have HF:=H_ (d_ hob (d_ hc13 (d_ hm13 hz)));clear hob ho13 hz hz1 hb13 hmk HFP3;go_wp2;go_ret2;exact .inl ⟨HH.out.2.2.2.1,A13,n13,c13,rfl,HF.out⟩
 ·have hd:decide (m≤2000)=false:=decide_eq_false hm2
  have hmi:((2000:Int) < (m:Int))=True:=eq_true (by omega);go_enter Tryz.func212,Tryz.ntmps212;go_wp2;go_ret2;exact HBAD.out _ 2 (by rw[hd];rfl) (by omega) b0_
end
section
theorem wq3 {n:Nat} (h:n < 18446744073709551616):-9223372036854775808≤mx1 n∧mx1 n < 9223372036854775808:=by
 unfold mx1;split<;>omega
namespace It
theorem vk3 (b:List UInt8) (h:(take1 b).2.2=0):(take1 b).1.fit:=by
 have h0:It.fit ⟨0,0,0,0,0⟩:=by unfold It.fit;exact⟨by decide,by decide⟩
 unfold take1 at h ⊢;split
 ·exact h0
 ·split
  ·split
   ·split
    ·rename_i x n3 e
     have h1:∀q,Pn.take q=(x,n3,0)→x < 18446744073709551616:=fun q hq=>by
      have:=Pn.gz4 q;rw[hq]at this;exact this
     exact wq3 (h1 _ e)
    ·exact h0
   ·exact h0
  ·exact h0
theorem py2:∀(n:Nat) (b:List UInt8) (out:List It),(∀y∈out,y.fit)→∀y∈(takes n b out).1,y.fit
 |0,b,out,h=>h
 |n+1,b,out,h=>by
  unfold takes;split
  ·rename_i x r e
   refine py2 n r _ (fun y hy=>?_)
   rcases q_.1 hy with h1|h1
   ·exact h y h1
   ·rw[c_.1 h1]
    have:=vk3 b (by rw[e]);rw[e]at this;exact this
  ·intro y hy
   simp at hy
theorem pw4 (b:List UInt8):∀y∈(read b).1,y.fit:=by
 unfold read;split
 ·split
  ·intro y hy
   simp at hy
  ·split
   ·rename_i out r e
    split
    ·intro y hy
     have h2:=py2 _ _ [] (fun y h=>by simp at h) y (by rw[e];exact hy);exact h2
    ·intro y hy
     simp at hy
   ·intro y hy
    simp at hy
 ·intro y hy
  simp at hy
end It
end
section
open Go Go.RowKit Go.Lib
theorem uj3 (A:Option Addr) (n c:Nat) (a:List UInt8) (B:Option Addr) (m d:Nat) (b:List UInt8) (w:World) (ha:Row w.heap.size w A n 1 (bts a)) (hb:Row w.heap.size w B m 1 (bts b)):
  Calls Tryz.prog 237 #[.slice A n c,.slice B m d] w fun e w'=>e=.returned (.bool (a==b))∧w'=w:=by
 have c1:=ty1 ha c;have c2:=ty1 hb d;go_enter Tryz.func237,Tryz.ntmps237;go_wp2;go_ret;exact⟨by simp,rfl⟩
theorem bq4:(Tryz.prog.info? 31).map (fun i=>(i.zero,i.size,i.bytes))=some (some (.slice none 0 0),1,24):=by kernel_rfl
def TbAt (w:World) (f:Nat) (rs:List (List It)):Prop:=∃P n c cnt,cnt=rs.flatten.length∧BoxO w 288 f [.slice P n c,.int .i64 ((cnt:Nat):Int),.int .u32 0,.int .i32 0,.int .u32 0,.pointer none]∧n≤c∧c≤maxLen∧jv1 w.heap.size w P n rs
def bz3 (b h:Nat) (w w':World):Prop:=h≤w'.heap.size∧∀g,b≤g→g < h→w'.heap[g]?=w.heap[g]?
theorem bz3.fw5 {F:List Nat} {b:Nat} {w w':World} (c:Chg F w w') (hF:∀g∈F,g < b):bz3 b w.heap.size w w':=⟨c.size,fun g h1 h2=>c.block g h2 (fun hm=>by have:=hF g hm;omega)⟩
theorem Row.jz5 {B n size b h:Nat} {w w':World} {A:Option Addr} {xs:List Value} (hr:Row B w A n size xs) (hs:bz3 b h w w') (hB:B≤h) (hA:∀a,A=some a→b≤a.block):Row B w' A n size xs:=by
 refine⟨hr.len,fun j hj=>?_⟩;obtain⟨a,e,h1,h2⟩:=hr.cell j hj;refine⟨a,e,h1,?_⟩;rw[W_ (w:=w) (by rw[add_block];exact hs.2 a.block (hA a e) (by omega))];exact h2
def xq1 (b:Nat) (no:Option Nat) (w:World) (ls:List (List It)) (vs:List Value):Prop:=ls.length=vs.length∧∀i (h:i < ls.length),∃A k c,vs[i]?=some (.slice A k c)∧k≤c∧c≤maxLen∧Row w.heap.size w A k 5 (itc ls[i])∧∀a,A=some a→b≤a.block∧a.block < w.heap.size∧some a.block≠no
theorem xq1.step {b:Nat} {no no':Option Nat} {w w':World} {ls:List (List It)} {vs:List Value} (hh:xq1 b no w ls vs) (hs:w.heap.size≤w'.heap.size) (hk:∀g,b≤g→g < w.heap.size→some g≠no→w'.heap[g]?=w.heap[g]?) (hn:∀g,g < w.heap.size→some g≠no→some g≠no'):xq1 b no' w' ls vs:=by
 refine⟨hh.1,fun i hi=>?_⟩;obtain⟨A,k,c,h1,h2,h3,h4,h5⟩:=hh.2 i hi;refine⟨A,k,c,h1,h2,h3,⟨h4.len,fun j hj=>?_⟩,fun a ha=>⟨(h5 a ha).1,by have:=(h5 a ha).2.1;omega,hn _ (h5 a ha).2.1 (h5 a ha).2.2⟩⟩;obtain⟨a,e,q1,q2⟩:=h4.cell j hj;refine⟨a,e,by omega,?_⟩;rw[W_ (w:=w) (by rw[add_block];exact hk _ (h5 a e).1 (h5 a e).2.1 (h5 a e).2.2)];exact q2
theorem xq1.row {b:Nat} {no:Option Nat} {w:World} {ls:List (List It)} {vs:List Value} (hh:xq1 b no w ls vs) {P:Option Addr} {n:Nat} (hr:Row w.heap.size w P n 1 vs):jv1 w.heap.size w P n ls:=
 ⟨vs,hr,by have:=hr.len;have:=hh.1;omega,fun i hi=>let ⟨A,k,c,h1,h2,h3,h4,_⟩:=hh.2 i hi;⟨A,k,c,h1,h2,h3,h4⟩⟩
theorem xq1.snoc {b:Nat} {no:Option Nat} {w:World} {ls:List (List It)} {vs:List Value} (hh:xq1 b no w ls vs) {l:List It} {A:Option Addr} {k c:Nat} (h1:k≤c) (h2:c≤maxLen) (h3:Row w.heap.size w A k 5 (itc l)) (h4:∀a,A=some a→b≤a.block∧a.block < w.heap.size∧some a.block≠no):xq1 b no w (ls++[l]) (vs++[.slice A k c]):=by
 refine⟨by rw[e_,e_,hh.1];rfl,fun i hi=>?_⟩;rw[e_]at hi
 rcases T_ i ls.length with q1|q1
 ·obtain⟨A,k,c,z1,z2,z3,z4,z5⟩:=hh.2 i q1
  refine⟨A,k,c,by rw[J_ (by have:=hh.1;omega)];exact z1,z2,z3,?_,z5⟩;rw[aB_ q1];exact z4
 ·have q2:i=ls.length:=by simp at hi;omega
  subst q2;refine⟨A,k,c,by rw[hh.1];simp,h1,h2,?_,h4⟩;rw[bw_ l_];simp only[bF_,aP_];exact h3
theorem TbAt.of {b f cnt:Nat} {w W:World} {v:Value} {vs:List Value} {rs:List (List It)} {no:Option Nat} (hc:cnt=rs.flatten.length) (hf:b≤f) (hx:BoxO w 288 f [v,.int .i64 (cnt:Int),.int .u32 0,.int .i32 0,.int .u32 0,.pointer none]) (ho:w.ownsRow b 31 1 v rs.length vs) (hh:xq1 b none w rs vs) (hs:bz3 b w.heap.size w W):TbAt W f rs:=by
 have hx2:BoxO W 288 f _:=(hs.2 f hf hx.lt).trans hx;obtain⟨P,c,rfl,h1,h2,h3⟩:=dw ho;refine⟨P,_,c,cnt,hc,hx2,h1,h2,?_⟩;have hr:=((Row.own ho).jz5 hs l_ (fun a ha=>(h3 a ha).1)).up hs.1;exact(hh.step (no':=none) hs.1 (fun g h4 h5 _=>hs.2 g h4 h5) (fun g _ h=>h)).row hr
theorem ux4 (f cnt:Nat) (rs:List (List It)) (w:World) (h:TbAt w f rs) (hcnt:cnt=rs.flatten.length) (hn:rs.length≤1000000) (hb:cnt≤1000000):
  Calls Tryz.prog 167 #[.pointer (some ⟨f,0,none⟩)] w fun e w'=>∃A' c',e=.returned (.slice A' cnt c')∧
   w'.ownsRow w.heap.size 36 5 (.slice A' cnt c') cnt (itc rs.flatten)∧cnt≤c'∧c'≤maxLen∧Below w.heap.size w w':=by
 obtain⟨P,n,c,_,_,hbx,_,_,hr⟩:=h;have hc0:=hbx.c0;have hic:=aw2 P n c rs w (by have:=hr.len;omega) (by omega) hr;rw[←hcnt]at hic;have HC:=H_ hic;clear hbx hr hic hcnt;go_enter Tryz.func167,Tryz.ntmps167;go_wp2_with fail;refine HC.out.mono ?_;rintro e w1 ⟨A',c',rfl,h1⟩;have HF:=H_ h1;clear h1 HC;go_wp2;go_ret;exact⟨A',c',rfl,HF.out⟩
def xj4 (w:World) (b:List UInt8) (e:Ending) (w':World):Prop:=Below w.heap.size w w'∧
 ((Tb.open_ b=none∧∃er:Nat,er≠0∧e=.returned (.tuple #[.pointer none,.int .i64 (er:Int)]))∨
  (∃rs,Tb.open_ b=some rs∧∃f,e=.returned (.tuple #[.pointer (some ⟨f,0,none⟩),.int .i64 0])∧∀W,bz3 w.heap.size w'.heap.size w' W→TbAt W f rs))
theorem yj2 {b:List UInt8} {p:Nat} (h:(cx1 b p).2.2=0):p+12≤(cx1 b p).2.1∧(cx1 b p).2.1≤b.length∧(cx1 b p).1.length≤100∧Tb.may (cx1 b p).1=true:=by
 unfold cx1 at h ⊢;split
 ·rename_i h1
  obtain⟨h2,_,_,h3,h4⟩:=h1;have h5:=Fr.by4 h2;exact⟨h5.1,h5.2,h3,h4⟩
 ·rename_i h1
  rw[if_neg h1]at h;simp at h
theorem fk2 (f:Nat) (b:List UInt8) (p:Nat):Tb.parse (f+1) b p=if (cx1 b p).2.2=0 then (cx1 b p).1::Tb.parse f b (cx1 b p).2.1 else []:=by
 rw[Tb.parse];unfold cx1;split<;>simp
theorem py3 (A:Option Addr) (N c:Nat) (b:List UInt8) (w:World) (hN:N≤100000) (hNc:N≤c) (hcm:c≤maxLen) (hr:Row w.heap.size w A N 1 (bts b)):
  Calls Tryz.prog 161 #[.slice A N c] w (xj4 w b):=by
 obtain⟨i0,hi0,hz0,hz1,hz2⟩:=info_parts bq4;have hln:=hr.xk;have HR:=H_ hr;have HLN:=H_ hln;clear hr hln;have hA0:=b_ w (.cells #[.slice none 0 0,.int .i64 0,.int .u32 0,.int .i32 0,.int .u32 0,.pointer none] 288);have hB0:=BoxO.new w #[.slice none 0 0,.int .i64 0,.int .u32 0,.int .i32 0,.int .u32 0,.pointer none] 288;have HA0:=H_ hA0;have HB0:=H_ hB0;clear hA0 hB0;go_enter Tryz.func161,Tryz.ntmps161;go_wp2_with fail
 go_loopw [5] (fun at_ wr=>∃(p fu cnt:Nat) (rs:List (List It)) (v:Value) (vs:List Value),at_=.int .i64 (p:Int)∧p≤N∧rs.length *12≤p∧cnt≤rs.length *100∧Hid (cnt=rs.flatten.length∧N - p < fu∧rs++Tb.parse fu b p=Tb.parse (N+1) b 0∧(∀r∈rs,∀y∈r,y.fit)∧
   BoxO wr 288 w.heap.size [v,.int .i64 (cnt:Int),.int .u32 0,.int .i32 0,.int .u32 0,.pointer none]∧wr.ownsRow (w.heap.size+1) 31 1 v rs.length vs∧xq1 (w.heap.size+1) v.ownBlock wr rs vs∧Below w.heap.size w wr))
  (fun i _=>N - (intOf i).toNat)
 case atStart=>exact⟨0,N+1,0,[],_,[],rfl,by omega,by simp,by omega,H_ ⟨by simp,by omega,by simp,fun r h=>(by simp at h),HB0.out,E_ _ _ _ _,⟨rfl,fun i h=>absurd h (by simp)⟩,HA0.out⟩⟩
 case round=>
  obtain⟨p,fu,cnt,rs,v,vs,rfl,hpN,hrp,hcn,HB⟩:=hrel;have hbt:=xj3 A N c b p wr (by omega) hNc hcm ((HR.out.below HB.out.2.2.2.2.2.2.2).up HB.out.2.2.2.2.2.2.2.size) hpN;obtain⟨T,hT⟩:=n_ (cx1 b p);obtain⟨l,nx,er⟩:=T;rw[←hT]at hbt;have HBT:=H_ hbt;have HT:=H_ hT;clear hbt hT;go_wp2_with fail;refine HBT.out.mono ?_;rintro e w1 ⟨A1,k1,c1,rfl,hk1,hit,hb1⟩;simp only at hk1 hit;have HI:=H_ (d_ hk1 (d_ hit hb1));have hbx:=HB.out.2.2.2.2.1.below hb1;have d0:=hbx.c0;have d1:=hbx.c1;have HX:=H_ hbx;have hwlt:w.heap.size < wr.heap.size:=HB.out.2.2.2.2.1.lt;clear hk1 hit hb1 hbx HBT
  by_cases he:er=0
  ·subst he
   obtain⟨hn1,hn2,hn3,hn4⟩:=yj2 (b:=b) (p:=p) (by rw[←HT.out]);rw[←HT.out]at hn1 hn2 hn3 hn4;rw[HLN.out]at hn2;simp only at hn1 hn2 hn3 hn4;have hl0:0 < l.length:=bB_.2 (by intro e;rw[e]at hn4;simp[Tb.may]at hn4);have hk0:0 < k1:=by rw[HI.out.1];exact hl0
   have hk100:k1≤100:=by rw[HI.out.1];exact hn3
   obtain⟨a1,rfl,ha1⟩:∃a,A1=some a∧a.block < w1.heap.size:=by
    obtain⟨a,e1,e2⟩:=HI.out.2.1.row.some_ (by rw[iw];omega);exact⟨a,e1,e2⟩
   have hl1:=HI.out.2.1.low a1 rfl;have hvb:∀g,v.ownBlock=some g→g < wr.heap.size:=by
    intro g hg
    rcases HB.out.2.2.2.2.2.1.2 with ⟨rfl,_⟩|⟨g',cap,cur,rfl,hb,hgb,_⟩
    ·simp[Value.ownBlock]at hg
    ·obtain rfl:g'=g:=by simpa [Value.ownBlock] using hg
     exact(w_.1 hgb).1
   have hrows1:xq1 (w.heap.size+1) v.ownBlock w1 (rs++[l]) (vs++[.slice (some a1) k1 c1]):=by
    have h1:=HB.out.2.2.2.2.2.2.1.step (no':=v.ownBlock) HI.out.2.2.size (fun g _ h5 _=>HI.out.2.2.block g h5) (fun g _ h=>h);refine h1.snoc HI.out.2.1.nc HI.out.2.1.cm HI.out.2.1.row (fun a ha=>?_);injection ha with ha;subst ha;refine⟨by omega,ha1,fun e=>?_⟩;have:=hvb _ e.symm;omega
   have HH1:=H_ hrows1;have HVB:=H_ hvb;have HNX:=H_ (d_ hn3 hn4);have hown1:=(own_below HB.out.2.2.2.2.2.1 HI.out.2.2).alloc (.cells #[.slice (some a1) k1 c1] 31);have HO1:=H_ hown1;have hbt:=(Below.refl (w.heap.size+1) w1).alloc (by have:=HI.out.2.2.size;omega) (.cells #[.slice (some a1) k1 c1] 31);have HBT2:=H_ hbt;have hwk:IntKind.i64.wrap ((cnt:Int)+(k1:Int))=((cnt+k1:Nat):Int):=by rw[F_ _ (by omega)];omega
   have hsz1:=HI.out.2.2.size;clear hrows1 hvb hn3 hn4 hown1 hbt hl0;go_wp2_with (at_builtin;refine iy ?_);refine gz (aw1 rfl (.tmp 26) (.tmp 28) _ rfl (w.heap.size+1) 31 i0 _ 1 24 Tryz.underlying44 hi0 hz0 hz1 hz2 rfl (by omega) w1 HBT2.out (by rw[A_];omega) v rs.length vs rfl HO1.out _ (some ⟨w1.heap.size,0,none⟩) 1 1 (by omega) [.slice (some a1) k1 c1] rfl (Row.new w1 #[.slice (some a1) k1 c1] 31 rfl) (by simp[Value.oneCell']) (rs.length+1) _ rfl rfl (by unfold maxLen;omega) (by omega) ?_);intro A4 c4 w2 hown4 hb4 hg4 _ _ hat4;have hx2:BoxO w2 288 w.heap.size [v,.int .i64 (cnt:Int),.int .u32 0,.int .i32 0,.int .u32 0,.pointer none]:=(hb4.block _ (by omega)).trans HX.out;have e0:=hx2.c0;have e1:=hx2.c1;have e2:=hx2.free 0;have e3:=hx2.free 1;have HG:=H_ (d_ hx2 (d_ hown4 (d_ hb4 (d_ hg4 hat4))));clear hx2 hown4 hb4 hg4 hat4;go_wp2;go_roundw
   case rel=>
    obtain⟨q1,q2,q3,q4,q5⟩:=HG.out;have hvne:some w.heap.size≠v.ownBlock:=by
     intro e
     rcases HB.out.2.2.2.2.2.1.2 with ⟨rfl,_⟩|⟨g',cap,cur,rfl,hb,hgb,_⟩
     ·simp[Value.ownBlock]at e
     ·simp[Value.ownBlock]at e
      omega
    have hv2:some w.heap.size≠(Value.slice A4 (rs.length+1) c4).ownBlock:=by
     intro e
     rcases q5 with h|h
     ·rw[h]at e;exact hvne e
     ·rw[h,A_]at e
      injection e with e;omega
    have hst:=(q1.store 0 (.slice A4 (rs.length+1) c4)).store 1 (.int .i64 ((cnt+k1:Nat):Int));have hT:=HT.out;have hsizes:w2.heap.size=((w2.setCell ⟨w.heap.size,0,none⟩ (.slice A4 (rs.length+1) c4)).setCell ⟨w.heap.size,1,none⟩ (.int .i64 ((cnt+k1:Nat):Int))).heap.size:=by simp
    have hoth:∀g,g≠w.heap.size→((w2.setCell ⟨w.heap.size,0,none⟩ (.slice A4 (rs.length+1) c4)).setCell ⟨w.heap.size,1,none⟩ (.int .i64 ((cnt+k1:Nat):Int))).heap[g]?=w2.heap[g]?:=by
     intro g hg;rw[Below.heap_setCell _ _ _ g (fun e=>hg e),Below.heap_setCell _ _ _ g (fun e=>hg e)]
    have hown5:=q2.kept (grownBy_setCell' w2 w.heap.size (.slice A4 (rs.length+1) c4)) (.inr hv2.symm);have hg6:(w2.setCell ⟨w.heap.size,0,none⟩ (.slice A4 (rs.length+1) c4)).grownBy ((w2.setCell ⟨w.heap.size,0,none⟩ (.slice A4 (rs.length+1) c4)).setCell ⟨w.heap.size,1,none⟩ (.int .i64 ((cnt+k1:Nat):Int))) (some w.heap.size):=
     ⟨rfl,rfl,rfl,by simp,fun k _ hk=>Below.heap_setCell _ _ _ k (fun e=>hk (by rw[e]))⟩
    have hown6:=hown5.kept hg6 (.inr hv2.symm);have hrw:=HH1.out.step (no':=(Value.slice A4 (rs.length+1) c4).ownBlock) (w':=(w2.setCell ⟨w.heap.size,0,none⟩ (.slice A4 (rs.length+1) c4)).setCell ⟨w.heap.size,1,none⟩ (.int .i64 ((cnt+k1:Nat):Int)))
     (by rw[←hsizes];have:=q4.size;rw[A_]at this;omega)
     (fun g g1 g2 g3=>by rw[hoth g (by omega),q4.block g (by rw[A_];omega) g3,Below.heap_alloc _ _ g g2])
     (fun g g1 g2=>by
      rcases q5 with h|h
      ·rw[h];exact g2
      ·rw[h,A_]
       intro e;injection e with e;omega)
    have hbf:Below w.heap.size w ((w2.setCell ⟨w.heap.size,0,none⟩ (.slice A4 (rs.length+1) c4)).setCell ⟨w.heap.size,1,none⟩ (.int .i64 ((cnt+k1:Nat):Int))):=by
     have h1:=(HB.out.2.2.2.2.2.2.2.trans (HI.out.2.2.mono HB.out.2.2.2.2.2.2.2.size)).trans (q3.mono (Nat.le_succ _));exact(h1.setCell (p:=⟨w.heap.size,0,none⟩) l_ _).setCell (p:=⟨w.heap.size,1,none⟩) l_ _
    obtain⟨fu',rfl⟩:∃f,fu=f+1:=⟨fu - 1,by have:=HB.out.2.1;omega⟩;have hpr:=HB.out.2.2.1;rw[fk2,←hT,if_pos rfl]at hpr;refine⟨nx,fu',cnt+k1,rs++[l],.slice A4 (rs.length+1) c4,vs++[.slice (some a1) k1 c1],rfl,hn2,by rw[e_];simp only[ah_];omega,by rw[e_];simp only[ah_];omega,H_ ⟨?_,by have:=HB.out.2.1;omega,by rw[D_];exact hpr,?_,?_,?_,?_,?_⟩⟩
    ·rw[be_,e_,←HB.out.1,HI.out.1];simp
    ·intro r hr
     rcases q_.1 hr with h1|h1
     ·exact HB.out.2.2.2.1 r h1
     ·rw[c_.1 h1]
      intro y hy;have h2:l=(cx1 b p).1:=by rw[←hT]
      rw[h2]at hy;unfold cx1 at hy;split at hy
      ·exact It.pw4 _ y hy
      ·simp at hy
    ·simpa using hst
    ·simpa using hown6
    ·simpa using hrw
    ·simpa using hbf
   case measure=>simp[intOf];omega
  ·have he3:((er:Int)==0)=false:=by simp;omega
   have hend:Tb.parse (N+1) b 0=rs:=by
    have h1:=HB.out.2.2.1;obtain⟨fu',rfl⟩:∃f,fu=f+1:=⟨fu - 1,by have:=HB.out.2.1;omega⟩;rw[fk2,←HT.out,if_neg he,aU_]at h1;exact h1.symm
   have hop:Tb.open_ b=if (Tb.good rs.flatten=true∧Tb.make rs.flatten=b) then some rs else none:=by
    unfold Tb.open_;rw[HLN.out,hend]
   have hown1:=own_below HB.out.2.2.2.2.2.1 HI.out.2.2;have hrows1:=HB.out.2.2.2.2.2.2.1.step (no':=none) HI.out.2.2.size (fun g _ h5 _=>HI.out.2.2.block g h5) (fun g _ h=>nofun);have htb:∀W,bz3 w.heap.size w1.heap.size w1 W→TbAt W w.heap.size rs:=fun W hW=>TbAt.of (b:=w.heap.size) (no:=none) HB.out.1 l_ HX.out (own_base hown1 (Nat.le_succ _)) ⟨hrows1.1,fun i hi=>let ⟨A,k,c,h1,h2,h3,h4,h5⟩:=hrows1.2 i hi;⟨A,k,c,h1,h2,h3,h4,fun a ha=>⟨Nat.le_of_succ_le (h5 a ha).1,(h5 a ha).2⟩⟩⟩ hW;have htn:=htb w1 ⟨x_ _,fun _ _ _=>rfl⟩;have hal:=ux4 w.heap.size cnt rs w1 htn HB.out.1 (by omega) (by omega);have HAL:=H_ hal;have HTB:=H_ htb;have HOP:=H_ hop;have hbw1:=HB.out.2.2.2.2.2.2.2.trans (HI.out.2.2.mono HB.out.2.2.2.2.2.2.2.size);have HBW:=H_ hbw1;clear hend hop hown1 hrows1 htb htn hal hbw1;go_wp2_with fail;refine HAL.out.mono ?_;rintro e w2 ⟨A2,c2,rfl,ho2,hc2,hm2,hb2⟩;have hmk:=ek2 A2 cnt c2 rs.flatten w2 (by omega) hc2 (Row.own ho2) (fun x hx=>by
    obtain⟨r,h1,h2⟩:=List.mem_flatten.1 hx;exact HB.out.2.2.2.1 r h1 x h2)
   have HMK:=H_ hmk;have HB2:=H_ hb2;clear hmk ho2 hb2 HAL;go_wp2_with fail;refine HMK.out.mono ?_;rintro e w3 (⟨hgd,A3,M3,c3,rfl,ho3,hc3,hm3,hb3⟩|⟨hgd,er3,hne3,rfl,hb3⟩)
   ·have hb13:=az HB2.out hb3
    have heq:=uj3 A3 M3 c3 (Tb.make rs.flatten) A N c b w3 (Row.own ho3) ((HR.out.below (HBW.out.trans (hb13.mono HBW.out.size))).up (HBW.out.trans (hb13.mono HBW.out.size)).size);obtain⟨q,hq⟩:=n_ ((Tb.make rs.flatten==b));rw[←hq]at heq;have HEQ:=H_ heq;have HQ:=H_ (d_ hq (d_ hgd hb13));clear heq hq hgd hb13 hb3 ho3 HMK;go_wp2_with fail;refine HEQ.out.mono ?_;rintro e w4 ⟨rfl,rfl⟩;have hbz:=HBW.out.trans (HQ.out.2.2.mono HBW.out.size);have HBZ:=H_ hbz;clear hbz HEQ
    cases q with
    |true=>
     go_wp2;go_ret2;have h1:=HQ.out.1;have h2:Tb.open_ b=some rs:=by rw[HOP.out,if_pos ⟨HQ.out.2.1,by simpa using h1.symm⟩]
     refine⟨HBZ.out,.inr ⟨rs,h2,w.heap.size,rfl,fun W hW=>HTB.out W ⟨h_ HQ.out.2.2.size hW.1,fun g g1 g2=>?_⟩⟩⟩;rw[hW.2 g g1 (by have:=HQ.out.2.2.size;omega),HQ.out.2.2.block g g2]
    |false=>
     go_wp2;go_ret2;have h1:=HQ.out.1;have h2:Tb.open_ b=none:=by rw[HOP.out,if_neg (fun h=>by rw[h.2]at h1;simp at h1)]
     exact⟨HBZ.out,.inl ⟨h2,9,by omega,rfl⟩⟩
   ·have he5:((er3:Int)==0)=false:=by simp;omega
    have hbz:=HBW.out.trans ((az HB2.out hb3).mono HBW.out.size);have h2:Tb.open_ b=none:=by rw[HOP.out,if_neg (fun h=>by rw[h.1]at hgd;cases hgd)]
    have HBZ:=H_ (d_ hbz h2);clear hbz h2 hgd;go_wp2;go_ret2;exact⟨HBZ.out.1,.inl ⟨HBZ.out.2,9,by omega,rfl⟩⟩
end
section
open Go Go.RowKit Go.Lib Go.Shelf
theorem cw4 (L:Option Addr) (m d:Nat) (l:List It) (w:World) (h0:0 < m) (hm:m≤1000) (hq:Row w.heap.size w L m 5 (itc l)) (hk:∀x∈l,x.ok=true∧x.fit):
  Calls Tryz.prog 210 #[.slice L m d] w fun e w'=>∃A' M c',e=.returned (.tuple #[.slice A' M c',.int .i64 0])∧
   w'.ownsRow w.heap.size 5 1 (.slice A' M c') M (bts (Lg.batch l))∧M≤c'∧c'≤maxLen∧Below w.heap.size w w':=by
 have hmn:=hq.uz;have hib:=sx1 none 0 0 [] L m d l w (by omega) (by omega) Row.nil_ hq hk;rw[y_]at hib;have hbl:=It.aq1 l;have hm0:((m:Int)==0)=false:=by simp;omega
 have HIB:=H_ hib;clear hib hk;go_enter Tryz.func210,Tryz.ntmps210;go_wp2_with fail;refine HIB.out.mono ?_;rintro e w1 ⟨A1,M1,c1,rfl,ho1,hc1,hm1,hb1⟩;have hML:M1=(It.bytes l).length:=by
  have:=ho1.1;rw[pq]at this;omega
 have hM6:M1≤60000:=by omega
 have hM6i:((60000:Int) < (M1:Int))=False:=eq_false (by omega);have hfp:=iv1 none 0 0 [] 1 A1 M1 c1 (It.bytes l) w1 (by omega) (by omega) (by omega) Row.nil_ (by omega) (by omega) hM6 hc1 hm1 (Row.own ho1);rw[y_]at hfp;have HFP:=H_ hfp;clear hfp ho1 HIB hML;go_wp2_with fail;refine HFP.out.mono ?_;rintro e w2 ⟨A2,M2,c2,rfl,ho2,hc2,hm2,hb2⟩;have hob:=own_base ho2 hb1.size;have hbz:=az hb1 hb2;have HF:=H_ (d_ hob (d_ hc2 (d_ hm2 hbz)));clear ho2 hob hbz HFP;go_wp2;go_ret2;exact⟨A2,M2,c2,rfl,HF.out⟩
abbrev LgAt (w:World) (g xd:Nat) (nm:List UInt8) (sz ct:Nat):Prop:=BoxO w 233 g [.pointer (some ⟨xd,0,none⟩),.string (str nm),.int .i64 (sz:Int),.int .i64 (ct:Int),.bool false]
theorem UpdM.drew {X:Dw} {S:Sd} {w w':World} (h:UpdM X w.drew w' S):UpdM X w w' S:=by
 obtain⟨X2,a,b,c,d⟩:=h;exact⟨X2,a,b,((Chg.refl X.foot w).drew).trans c (fun g hg=>.inl hg),d⟩
theorem LgAt.upd {X:Dw} {S:Sd} {w w':World} {g xd:Nat} {nm:List UInt8} {sz ct:Nat} (h:LgAt w g xd nm sz ct) (hu:UpdM X w w' S) (hg:g∉X.foot):LgAt w' g xd nm sz ct:=by
 obtain⟨X2,a,b,c,d⟩:=hu;exact h.chg c hg
theorem ly2 (l:List UInt8):(str l).data.toList=l:=by simp[str]
theorem sj3 (g xd:Nat) (nm:List UInt8) (sz ct:Nat) (w:World) (h:LgAt w g xd nm sz ct):
  Calls Tryz.prog 108 #[.pointer (some ⟨g,0,none⟩)] w fun e w'=>e=.returned (.int .i64 (ct:Int))∧w'=w:=by
 have HL:=H_ (pv3 g 3 (ct:Int) w (h.cell 3));clear h;go_enter Tryz.func108,Tryz.ntmps108;go_wp2_with fail;refine HL.out.mono ?_;rintro e w1 ⟨rfl,rfl⟩;go_wp2;go_ret;exact⟨rfl,rfl⟩
theorem kz15 {P S a oi v} (h:Hv P S a oi v:=by intro w hSw;(have c0:=hSw.c0;have c1:=hSw.c1);go_simp;try (with_reducible rfl)):Hv P S a oi v:=h
theorem yq1 (X:Dw) (S:Sd) (g:Nat) (nm:List UInt8) (sz ct:Nat) (w:World) (hnm:nm.length≤1000) (h:Dm w X S) (hg:LgAt w g X.d nm sz ct) (hgX:g∉X.foot):
  Calls Tryz.prog 138 #[.pointer (some ⟨g,0,none⟩)] w fun e w'=>e=.returned (.int .i64 ((S.sync nm).2:Int))∧UpdM X w w' (S.sync nm).1:=by
 have c0:=hg.c0;have c1:=hg.c1;have c4:=hg.c4;have hs:=(Acc.start (F:=[]) (h.below (w':=w.drew) (ak b0_))).sync (str nm) (by rw[kz];unfold maxLen;omega);rw[ly2]at hs;have hs2:Calls Tryz.prog 29 #[.pointer (some ⟨X.d,0,none⟩),.string (str nm)] w.drew fun e w'=>e=.returned (.int .i64 ((S.sync nm).2:Int))∧UpdM X w w' (S.sync nm).1:=hs.mono fun e w' ⟨h1,X2,h2⟩=>⟨h1,UpdM.drew h2.updM⟩;generalize (S.sync nm).2=er at *;have HS:=H_ hs2;have HG:=H_ hg;clear hs hs2 hg h;go_enter Tryz.func138,Tryz.ntmps138;go_wp2_with fail;refine wp_region_held_drew (S:=fun w'=>LgAt w' g X.d nm sz ct) rfl HG.out.drew (fun hSw=>?_);refine w_v 0 hSw ?_ (k:=kz15);go_simp;refine w_v 1 hSw ?_ (k:=kz15);go_simp;refine w_v 2 hSw ?_ (k:=kz15);go_simp;refine w_v 3 hSw ?_ (k:=kz15);go_simp;refine w_v 4 hSw ?_ (k:=kz15);go_simp;refine w_v 5 hSw ?_ (k:=kz15);go_simp;refine w_v 6 hSw ?_ (k:=kz15);go_simp;refine w_v 7 hSw ?_ (k:=kz15);go_simp;refine w_r 8 fun K hK=>?_;go_simp
 with_reducible refine HS.out.mono ?_
 rintro e w3 ⟨rfl,hu⟩;go_simp;refine hK.out _ _ (HG.out.upd hu hgX) ?_;clear hSw hK K;intro hSw;go_simp;refine w_v 9 hSw ?_ (k:=kz15);go_simp;refine wpAnyH_done (by kernel_rfl) ?_ _;clear hSw;go_wp2;go_ret;exact⟨rfl,hu⟩
def ij4 (X:Dw) (w:World) (nm:List UInt8) (R:Sd×Nat) (e:Ending) (w':World):Prop:=∃X',X'.d=X.d∧Dm w' X' R.1∧Chg X.foot w w'∧(∀g∈X'.foot,g∈X.foot∨w.heap.size≤g)∧
 ((R.2≠0∧e=.returned (.tuple #[.pointer none,.int .i64 (R.2:Int)]))∨(R.2=0∧∃g,e=.returned (.tuple #[.pointer (some ⟨g,0,none⟩),.int .i64 0])∧LgAt w' g X.d nm 0 0∧w.heap.size≤g∧g∉X'.foot))
theorem jk3 (X:Dw) (S:Sd) (nm:List UInt8) (w:World) (hnm:nm.length≤1000) (hld:S.load≤1099511627776) (h:Dm w X S):
  Calls Tryz.prog 151 #[.pointer (some ⟨X.d,0,none⟩),.string (str nm)] w (ij4 X w nm (S.create nm)):=by
 have hs:=(Acc.start (F:=[]) h).create (str nm) (by rw[kz];unfold maxLen;omega) hld;rw[ly2]at hs;obtain⟨R,hR⟩:=n_ (S.create nm);rw[←hR]at hs ⊢;obtain⟨S1,er⟩:=R;simp only at hs;have HS:=H_ hs;clear hs h hR;go_enter Tryz.func151,Tryz.ntmps151;go_wp2_with fail;refine HS.out.mono ?_;rintro e w1 ⟨rfl,X2,h2⟩;have H2:=H_ h2;clear h2 HS
 by_cases he:er=0
 ·subst he
  go_wp2;go_ret2;have hc:=H2.out.c;have hlt:=H2.out.dm.dk.lt;have hsz:=hc.size;have hba:=b_ w1 (.cells #[.pointer (some ⟨X.d,0,none⟩),.string (str nm),.int .i64 0,.int .i64 0,.bool false] 233);refine⟨X2,H2.out.e,H2.out.dm.below hba,by simpa using hc.alloc (.cells #[.pointer (some ⟨X.d,0,none⟩),.string (str nm),.int .i64 0,.int .i64 0,.bool false] 233),H2.out.f,.inr ⟨rfl,w1.heap.size,rfl,BoxO.new _ _ _,hsz,fun hm=>?_⟩⟩;have:=hlt _ hm;omega
 ·have he3:((er:Int)==0)=false:=by simp;omega
  go_wp2;go_ret2;exact⟨X2,H2.out.e,H2.out.dm,by simpa using H2.out.c,H2.out.f,.inl ⟨he,rfl⟩⟩
def jw3 (X:Dw) (g:Nat) (w:World) (nm:List UInt8) (sz ct len:Nat) (R:Sd×Nat) (e:Ending) (w':World):Prop:=e=.returned (.int .i64 (R.2:Int))∧∃X',X'.d=X.d∧Dm w' X' R.1∧Chg (g::X.foot) w w'∧(∀g∈X'.foot,g∈X.foot∨w.heap.size≤g)∧
 (if R.2=0 then LgAt w' g X.d nm (sz+len) (ct+1) else LgAt w' g X.d nm sz ct)
theorem jv4 (X:Dw) (S:Sd) (g:Nat) (nm:List UInt8) (sz ct:Nat) (L:Option Addr) (m d:Nat) (l:List It) (w:World) (hnm:nm.length≤1000) (h:Dm w X S) (hg:LgAt w g X.d nm sz ct) (hgX:g∉X.foot) (hgN:NG≤g)
  (hsz:sz≤1000000000000) (hct:ct≤1000000000) (h0:0 < m) (hm:m≤1000) (hq:Row w.heap.size w L m 5 (itc l)) (hk:∀x∈l,x.ok=true∧x.fit):
  Calls Tryz.prog 131 #[.pointer (some ⟨g,0,none⟩),.slice L m d] w (jw3 X g w nm sz ct (Lg.batch l).length (S.append nm (Lg.batch l))):=by
 have c4:=hg.c4;have hb:=cw4 L m d l w h0 hm hq hk;have hbl:=Lg.pw2 l;have hmn:=hq.uz;have hgl:=hg.lt;have HB:=H_ hb;have HD:=H_ h;have HG:=H_ hg;obtain⟨R,hR⟩:=n_ (S.append nm (Lg.batch l));obtain⟨len,hlen⟩:=n_ ((Lg.batch l).length);rw[←hR,←hlen];obtain⟨S1,er⟩:=R;have HR:=H_ hR;have HLEN:=H_ hlen;rw[←hlen]at hbl;clear hb h hg hk hq hR hlen;go_enter Tryz.func131,Tryz.ntmps131;go_wp2_with fail;refine HB.out.mono ?_;rintro e w1 ⟨A1,M1,c1,rfl,ho1,hc1,hm1,hb1⟩;have hML:M1=len:=by
  have:=ho1.1;rw[pq,←HLEN.out]at this;omega
 obtain⟨A2,c2,hv,hqc,hqm,hlow⟩:=dw ho1;injection hv with e1 e2 e3;subst e1 e3;have hd1:=HD.out.below hb1;have hg1:=HG.out.below hb1;have hA:∀a,A1=some a→a.block∉X.foot:=fun a ha hm=>by
  have h2:=(hlow a ha).1;have h3:=HD.out.dk.lt _ hm;omega
 have hap:=(Acc.start (F:=[]) (hd1.below (w':=w1.drew) (ak b0_))).append (str nm) (by rw[kz];unfold maxLen;omega) A1 M1 c1 (Lg.batch l) (by omega) (Row.own ho1) hA;rw[ly2]at hap;rw[←HR.out]at hap;have hap2:Calls Tryz.prog 28 #[.pointer (some ⟨X.d,0,none⟩),.string (str nm),.slice A1 M1 c1] w1.drew fun e w'=>e=.returned (.int .i64 (er:Int))∧UpdM X w1 w' S1:=hap.mono fun e w' ⟨h1,X2,h2⟩=>⟨h1,UpdM.drew h2.updM⟩;subst hML;have HG1:=H_ hg1;have HAP:=H_ hap2;have HB1:=H_ hb1;clear hap hap2 hg1 hd1 ho1 hb1 hA hlow hqc hqm HB;go_wp2_with fail;refine wp_region_held_drew (S:=fun w'=>LgAt w' g X.d nm sz ct) rfl HG1.out.drew (fun hSw=>?_);refine w_v 0 hSw ?_ (k:=kz15);go_simp;refine w_v 1 hSw ?_ (k:=kz15);go_simp;refine w_v 2 hSw ?_ (k:=kz15);go_simp;refine w_v 3 hSw ?_ (k:=kz15);go_simp;refine w_v 4 hSw ?_ (k:=kz15);go_simp;refine w_v 5 hSw ?_ (k:=kz15);go_simp;refine w_v 6 hSw ?_ (k:=kz15);go_simp;refine w_v 7 hSw ?_ (k:=kz15);go_simp;refine w_v 8 hSw ?_ (k:=kz15);go_simp;refine w_r 9 fun K hK=>?_;go_simp
 with_reducible refine HAP.out.mono ?_
 rintro e w3 ⟨rfl,hu⟩;go_simp;refine hK.out _ _ (LgAt.upd HG1.out hu hgX) ?_;clear hSw hK K;intro hSw;go_simp;refine w_v 10 hSw ?_ (k:=kz15);go_simp;refine wpAnyH_done (by kernel_rfl) ?_ _;have hg3:=hSw;clear hSw HAP;have hcs:∃X',X'.d=X.d∧Dm w3 X' S1∧Chg X.foot w w3∧∀g∈X'.foot,g∈X.foot∨w.heap.size≤g:=by
  obtain⟨X2,q1,q2,q3,q4⟩:=hu;refine⟨X2,q1,q2,(Chg.of_below HB1.out X.foot).trans q3 (fun g hg=>.inl hg),fun g hg=>?_⟩
  rcases q4 g hg with h1|h1
  ·exact .inl h1
  ·exact .inr (h_ HB1.out.size h1)
 have HC:=H_ hcs;clear hcs hu
 by_cases he:er=0
 ·subst he
  have d2:=hg3.c2;have d3:=hg3.c3;have f2:=hg3.free 2;have f3:=hg3.free 3;have hw2:IntKind.i64.wrap ((sz:Int)+(M1:Int))=((sz+M1:Nat):Int):=by rw[F_ _ (by omega)];omega
  have hg4:=hg3.store 2 (.int .i64 ((sz+M1:Nat):Int));have d34:=hg4.cell 3;simp only[ak_,ac_,gE0,gE1]at d34 hg4;have had:=vw3 g 3 (ct:Int) (w3.setCell ⟨g,2,none⟩ (.int .i64 ((sz+M1:Nat):Int))) (by omega) (by omega) d34 (hg4.free 3);have hg5:=hg4.store 3 (.int .i64 ((ct:Int)+1));simp only[ak_,ac_]at hg5;have hcg:Chg [g] w3 ((w3.setCell ⟨g,2,none⟩ (.int .i64 ((sz+M1:Nat):Int))).setCell ⟨g,3,none⟩ (.int .i64 ((ct:Int)+1))):=((Chg.refl _ w3).setCell _ (.inl (by simp))).setCell _ (.inl (by simp));have hfin:jw3 X g w nm sz ct M1 (S1,0) (.returned (.int .i64 0)) ((w3.setCell ⟨g,2,none⟩ (.int .i64 ((sz+M1:Nat):Int))).setCell ⟨g,3,none⟩ (.int .i64 ((ct:Int)+1))):=by
   obtain⟨X2,q1,q2,q3,q4⟩:=HC.out;have hgX2:g∉X2.foot:=fun hm=>by
    rcases q4 g hm with h1|h1
    ·exact hgX h1
    ·omega
   refine⟨rfl,X2,q1,q2.chg hcg (fun x hx=>by rw[c_.1 hx];exact⟨hgX2,hgN⟩),(q3.mono (fun x hx=>.inl (f_ _ hx))).trans hcg (fun x hx=>.inl (by rw[c_.1 hx];exact m_)),q4,?_⟩;rw[if_pos rfl];exact hg5
  have HAD:=H_ had;have HFIN:=H_ hfin;clear had hfin hcg hg5 hg4 hg3 d34 HC;go_wp2_with fail;refine HAD.out.mono ?_;rintro e w4 ⟨rfl,rfl⟩;go_wp2;go_ret;exact HFIN.out
 ·have he3:((er:Int)==0)=false:=by simp;omega
  have hfin:jw3 X g w nm sz ct M1 (S1,er) (.returned (.int .i64 (er:Int))) w3:=by
   obtain⟨X2,q1,q2,q3,q4⟩:=HC.out;refine⟨rfl,X2,q1,q2,q3.mono (fun x hx=>.inl (f_ _ hx)),q4,?_⟩;rw[if_neg he];exact hg3
  have HFIN:=H_ hfin;clear hfin hg3 HC;go_wp2;go_ret;exact HFIN.out
end
section
open Go Go.RowKit Go.Lib Go.Shelf
end
section
open Go Go.RowKit Go.Lib Go.Shelf
attribute [local go_sem] Oper.semAt_some
section
variable {F:Fence} {n:Nat} {P:Program}
def uw4 {α:Type} (F:Fence) (n:Nat) (P:Program) (gf:Nat) (lb:Array Value) (encs:α→Array Value) (Kp:World→World→Prop) (S Sp:List α→Prop) (Nx:List α→α→Prop) (N:Nat) (w0:World):Prop:=
 ∀(l:Nat) (J Jx:List α→World→Prop) (W:World),Below w0.heap.size w0 W→(∀pre W,J pre W→J pre W.drew)→
  (∀pre x W,J pre W→pre.length < N→Nx pre x→YieldAt F (n - 1) P l (encs x) W fun e W'=>(e=.returned (.bool true)∧J (pre++[x]) W'∧Kp W W')∨(e=.returned (.bool false)∧Jx (pre++[x]) W'))→J [] W→
  CallsIn F n P gf (#[.func (.yield l) #[] #[]] ++lb) W fun e W'=>(∃v,e=.returned v)∧((∃ys,S ys∧J ys W')∨(∃pre,Sp pre∧Jx pre W'))
theorem mw1 {B l:Nat} {W:World} (hl:l=B∨l=B+1) (o:Obj):Chg [B,B+1] W (W.putObj l o):=⟨rfl,rfl,rfl,by simp,fun g _ hg=>I_ (fun e=>hg (by subst e;rcases hl with rfl|rfl<;>simp))⟩
def uk1 (B:Nat) (W W':World):Prop:=W'.heap[B]?=W.heap[B]?∧W'.heap[B+1]?=W.heap[B+1]?
def ik3 {α:Type} (B:Nat) (Kp:World→World→Prop) (I:List α→World→Prop) (Ix:Code→List α→World→Prop) (xs:List α) (W:World):Exit→Act→World→Prop
 |.normal,_,W'=>uk1 B W W'∧Kp W W'∧I xs W'
 |.ret,_,W'=>uk1 B W W'∧Ix .ret xs W'
 |.exit id,_,W'=>uk1 B W W'∧Ix (.exit id) xs W'
 |.goto t,_,W'=>uk1 B W W'∧Ix (.goto t) xs W'
 |.panic _,_,_=>False
 |.outgrown,_,_=>False
def aj1 (B:Nat) (W:World):Prop:=W.heap[B]?=some (.deferred (some []))∧∃r,W.heap[B+1]?=some (.loop r)
theorem ek1 {α:Type} {g:Operand} {ps:Array Tmp} {assign body:Code} {Q:Exit→Act→World→Prop} {a:Act} {w:World}
  (hro:F.round=none) (h1:1≤n) {gf:Nat} {lb:Array Value} (hg:a.eval g=.func (.func gf) #[] lb) (hFg:F.fn gf) (eg:∀args w,(callFunc gf args).run P w=.ok (.enter gf args) w)
  {encs:α→Array Value} {Kp:World→World→Prop} {S Sp:List α→Prop} {Nx:List α→α→Prop} {N:Nat} {w0:World} (hseq:uw4 F (n - 1) P gf lb encs Kp S Sp Nx N w0)
  (hKt:∀{A B C:World},Kp A B→Kp B C→Kp A C) (hKb:∀(W:World) (l:Nat) (o':Obj),w.heap.size≤l→Kp W (W.putObj l o')) (hb0:Below w0.heap.size w0 w) (hps:∀x,(encs x).size=ps.size)
  (I:List α→World→Prop) (Ix:Code→List α→World→Prop) (hI:∀s W W',I s W→Chg [w.heap.size,w.heap.size+1] W W'→aj1 w.heap.size W'→I s W') (hIx:∀c s W W',Ix c s W→Chg [w.heap.size,w.heap.size+1] W W'→aj1 w.heap.size W'→Ix c s W') (h0:I [] w) (a₁:α→Act)
  (hassign:∀(l:Nat) (x:α) (W:World) (K:Act→World→Prop),K (a₁ x) W→
   assign.wpIn (F.inRound l) (n - 1 - 1) P (Exit.then K (fun _ _ _=>False)) { tmps:=(ps.zip (encs x)).foldl (fun t (p,v)=>t.setIfInBounds p v) a.tmps,defers:=[] } W)
  (hbody:∀(l:Nat) (pre:List α) (x:α) (W:World),aj1 w.heap.size W→I pre W→pre.length < N→Nx pre x→body.wpIn (F.inRound l) (n - 1 - 1) P (ik3 w.heap.size Kp I Ix (pre++[x]) W) (a₁ x) W)
  (hdone:∀(D:Nat) (xs:List α) (W:World),w.heap.size≤D→S xs→I xs W→W.heap[D]?=some (.deferred (some []))→D=w.heap.size→Q .normal { a with defers:={ target:=.collected D,args:=#[] }::a.defers } W)
  (hstop:∀(D:Nat) (c:Code) (pre:List α) (W:World),w.heap.size≤D→Sp pre→Ix c pre W→W.heap[D]?=some (.deferred (some []))→D=w.heap.size→c.wpIn F n P Q { a with defers:={ target:=.collected D,args:=#[] }::a.defers } W):
  (Code.rangeFunc g ps assign body).wpIn F n P Q a w:=by
 refine wpIn_rangeFunc ?_;intro fn hfn;rw[hro];obtain⟨rec,hrec⟩:∃rec:LoopState→Option Code→Loop,rec=fun st pe=>{ state:=st,pending:=pe,fn,tmps:=a.tmps,params:=ps,assign,body,defers:=w.heap.size }:=⟨_,rfl⟩;obtain⟨W1,hW1⟩:∃W1,(w.alloc (.deferred (some []))).alloc (.loop (rec .ready none))=W1:=⟨_,rfl⟩;have hL1:W1.heap[w.heap.size+1]?=some (.loop (rec .ready none)):=by
  rw[←hW1];have:=bs_ (w.alloc (.deferred (some []))) (.loop (rec .ready none));rwa [A_]at this
 have hK1:W1.heap[w.heap.size]?=some (.deferred (some [])):=by
  rw[←hW1];exact(Below.heap_alloc _ _ _ (by simp)).trans (bs_ w _)
 have hbw:Below w.heap.size w W1:=by
  rw[←hW1];exact((Below.refl _ w).alloc l_ _).alloc (by simp) _
 have hI1:I [] W1:=hI [] w W1 h0 (Chg.of_below hbw _) ⟨hK1,_,hL1⟩;have hb1:Below w0.heap.size w0 W1:=hb0.trans (hbw.mono hb0.size);refine⟨w.heap.size+1,[{ target:=.collected w.heap.size,args:=#[] }],W1,{ target:=.fn (.func gf) lb,args:=#[.func (.yield (w.heap.size+1)) #[] #[]] },W1,gf,
  #[.func (.yield (w.heap.size+1)) #[] #[]] ++lb,W1,?_,?_,?_,?_,fun _=>h1,?_⟩
 ·rw[←hW1,hrec];exact run_enterLoop_outer _ _ _ _ _
 ·simp only[resolve,hg]
  simp[go_sem]
 ·intro f' hf';simp[Target.leads]at hf';subst hf';exact hFg
 ·simp[invoke,go_sem,eg]
 ·refine(hseq (w.heap.size+1)
   (fun pre W=>I pre W∧W.heap[w.heap.size+1]?=some (.loop (rec .ready none))∧W.heap[w.heap.size]?=some (.deferred (some [])))
   (fun pre W=>∃c,Ix c pre W∧W.heap[w.heap.size+1]?=some (.loop (rec .done (some c)))∧W.heap[w.heap.size]?=some (.deferred (some [])))
   W1 hb1 (fun s A hs=>⟨hI s A _ hs.1 ⟨rfl,rfl,rfl,x_ _,fun _ _ _=>rfl⟩ ⟨hs.2.2,_,hs.2.1⟩,hs.2⟩) ?_ ⟨hI1,hL1,hK1⟩).mono ?_
  ·rintro pre x W ⟨hi,hl,hk⟩ hlen hnx
   have hlt:w.heap.size+1 < W.heap.size:=(w_.1 hl).1;have hy:=run_yield (P:=P) (args:=encs x) hl (by rw[hrec];exact hps x);rw[hrec]at hy;refine⟨fn,_,assign,body,hy,roundIn_of_wpIn hfn (hassign _ x W _ ⟨_,run_beginRound hl (by rw[hrec]),?_⟩)⟩;have hl2:(W.putObj (w.heap.size+1) (.loop { rec .ready none with state:=.busy })).heap[w.heap.size+1]?=some (.loop { rec .ready none with state:=.busy }):=bi_ hlt;have hk2:(W.putObj (w.heap.size+1) (.loop { rec .ready none with state:=.busy })).heap[w.heap.size]?=some (.deferred (some [])):=(I_ (by omega)).trans hk;have hw2:Kp W (W.putObj (w.heap.size+1) (.loop { rec .ready none with state:=.busy })):=hKb _ _ _ (by omega);refine wpIn_mono (hbody _ pre x _ ⟨hk2,_,hl2⟩ (hI _ _ _ hi (mw1 (.inr rfl) _) ⟨hk2,_,hl2⟩) hlen hnx) ?_;have fin:∀(jump:Option Code) (W3:World),uk1 w.heap.size (W.putObj (w.heap.size+1) (.loop { rec .ready none with state:=.busy })) W3→
     (Instr.endRound (w.heap.size+1) jump).run P W3=.ok (.bool jump.isNone) (W3.putObj (w.heap.size+1) (.loop (rec (if jump.isNone then .ready else .done) jump)))∧
     W3.heap[w.heap.size+1]?=some (.loop { rec .ready none with state:=.busy })∧
     (W3.putObj (w.heap.size+1) (.loop (rec (if jump.isNone then .ready else .done) jump))).heap[w.heap.size+1]?=some (.loop (rec (if jump.isNone then .ready else .done) jump))∧
     (W3.putObj (w.heap.size+1) (.loop (rec (if jump.isNone then .ready else .done) jump))).heap[w.heap.size]?=some (.deferred (some [])):=fun jump W3 hk3=>by
    have hl3:=hk3.2.trans hl2;have:=run_endRound (P:=P) jump hl3;rw[hrec]at this ⊢;exact⟨this,by rw[hrec]at hl3;exact hl3,bi_ (w_.1 hl3).1,(I_ (by omega)).trans (hk3.1.trans hk2)⟩
   rintro e a3 W3 hp
   cases e with
   |normal=>
    obtain⟨hk3,hkp3,hi3⟩:=hp;obtain⟨hr,hl3,hl4,hk4⟩:=fin none W3 hk3;exact⟨_,_,hr,.inl ⟨rfl,⟨hI _ _ _ hi3 (mw1 (.inr rfl) _) ⟨hk4,_,hl4⟩,hl4,hk4⟩,hKt (hKt hw2 hkp3) (hKb _ _ _ (by omega))⟩⟩
   |ret=>
    obtain⟨hk3,hi3⟩:=hp;obtain⟨hr,hl3,hl4,hk4⟩:=fin (some .ret) W3 hk3;exact⟨_,_,hr,.inr ⟨rfl,.ret,hIx _ _ _ _ hi3 (mw1 (.inr rfl) _) ⟨hk4,_,hl4⟩,hl4,hk4⟩⟩
   |exit id=>
    obtain⟨hk3,hi3⟩:=hp;obtain⟨hr,hl3,hl4,hk4⟩:=fin (some (.exit id)) W3 hk3;exact⟨_,_,hr,.inr ⟨rfl,.exit id,hIx _ _ _ _ hi3 (mw1 (.inr rfl) _) ⟨hk4,_,hl4⟩,hl4,hk4⟩⟩
   |goto t=>
    obtain⟨hk3,hi3⟩:=hp;obtain⟨hr,hl3,hl4,hk4⟩:=fin (some (.goto t)) W3 hk3;exact⟨_,_,hr,.inr ⟨rfl,.goto t,hIx _ _ _ _ hi3 (mw1 (.inr rfl) _) ⟨hk4,_,hl4⟩,hl4,hk4⟩⟩
   |panic ch=>exact hp.elim
   |outgrown=>exact hp.elim
  ·rintro e W2 ⟨⟨v,rfl⟩,(⟨xs,hS,hi,hl,hk⟩|⟨pre,hSp,c,hi,hl,hk⟩)⟩
   ·exact⟨none,_,by have:=run_endLoop (P:=P) hl (by rw[hrec];simp);rw[hrec]at this;exact this,hdone _ xs _ l_ hS (hI _ _ _ hi (mw1 (.inr rfl) _) ⟨(I_ (by omega)).trans hk,_,bi_ (w_.1 hl).1⟩) ((I_ (by omega)).trans hk) rfl⟩
   ·exact⟨some c,_,by have:=run_endLoop (P:=P) hl (by rw[hrec];simp);rw[hrec]at this;exact this,hstop _ c pre _ l_ hSp (hIx _ _ _ _ hi (mw1 (.inr rfl) _) ⟨(I_ (by omega)).trans hk,_,bi_ (w_.1 hl).1⟩) ((I_ (by omega)).trans hk) rfl⟩
end
theorem xq2 (F:Fence) (n:Nat) (h7:F.fn 205) (hro:F.round=none) (hn:1≤n) (Bs Bn:Nat) (Kp:World→World→Prop) (hKc:∀W W',Kp W W'→W'.cell? ⟨Bs,0,none⟩=W.cell? ⟨Bs,0,none⟩∧W'.cell? ⟨Bn,0,none⟩=W.cell? ⟨Bn,0,none⟩) (p:Addr) (A:Option Addr) (len cap m:Nat) (hA:0 < len→A=some p) (L:List It) (hL:L.length=len) (hm:1≤m) (hm2:m≤1000) (hlen:len≤100000) (hcap:len≤cap) {N:Nat} (hN:∀k,k *m < len→k < N) (w:World) (hb1:Bs < w.heap.size) (hb2:Bn < w.heap.size)
  (hBs:w.cell? ⟨Bs,0,none⟩=some (.slice A len cap)) (hBn:w.cell? ⟨Bn,0,none⟩=some (.int .i64 (m:Int))):
  uw4 F n Tryz.prog 205 #[.pointer (some ⟨Bs,0,none⟩),.pointer (some ⟨Bn,0,none⟩)] (fun x:Ck m len=>#[Ck.val p x]) Kp (fun ys=>ys.map (Ck.of L)=Tb.cut m len L) (fun _=>True) (fun pre x=>x.1=pre.length) N w:=fun l J Jx W hW hJd hY h0=>by
 have c1:=(hW.cell (p:=⟨Bs,0,none⟩) hb1).trans hBs;have c2:=(hW.cell (p:=⟨Bn,0,none⟩) hb2).trans hBn
 rcases ad_ len with h|h
 ·subst h
  exact(qk1 F n h7 hro l Bs Bn cap A (fun W=>J [] W) W c1 h0).mono fun _ _ ⟨he,hj⟩=>⟨he,.inl ⟨[],by simp[Tb.cut],hj⟩⟩
 ·rw[hA h]at c1
  exact(rw2 F n h7 hro hn l Bs Bn Kp hKc p len cap m L hL hm hm2 hlen hcap J Jx hJd (fun pre x W hj hl hx=>hY pre x W hj (hN _ hl) hx) W c1 c2 h0).mono fun _ _ ⟨he,h⟩=>⟨he,h.imp id fun⟨pre,h1⟩=>⟨pre,trivial,h1⟩⟩
theorem zk2 {m:Nat} (hm:1≤m):∀(f:Nat) (L:List It),L.length≤f→∀k,k *m < L.length→(Tb.cut m f L)[k]?=some ((L.drop (k *m)).take m)
 |0,L,hf,k,hk=>by omega
 |f+1,L,hf,k,hk=>by
  have hne:L≠[]:=fun e=>by rw[e]at hk;simp at hk
  unfold Tb.cut;rw[if_neg hne]
  cases k with
  |zero=>simp
  |succ k=>
   have hkm:(k+1)*m=k *m+m:=cb_ k m;rw[gE1,zk2 hm f (L.drop m) (by rw[B_];omega) k (by rw[B_];omega),aG_,hkm,Nat.add_comm]
theorem aj1.lt {B:Nat} {w:World} (h:aj1 B w):B+1 < w.heap.size:=let ⟨_,_,h2⟩:=h;(w_.1 h2).1
theorem rw4 {m len:Nat} (hm:1≤m) {L:List It} (hL:L.length=len) {pre:List (Ck m len)} {x:Ck m len} (hx:x.1=pre.length) (h:pre.map (Ck.of L)=(Tb.cut m len L).take pre.length):(pre++[x]).map (Ck.of L)=(Tb.cut m len L).take (pre++[x]).length:=by
 have h1:=zk2 hm len L (by omega) x.1 (by have:=x.2;omega);rw[aD_,h,e_,ah_,←hx];obtain⟨h2,h3⟩:=G_.1 h1;rw[o_ h2,h3];rfl
end
end Go.Proofs.YthjdpplgfdihoaaGreatDoor
