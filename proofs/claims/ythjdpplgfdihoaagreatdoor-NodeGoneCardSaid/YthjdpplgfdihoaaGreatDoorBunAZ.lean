/- Texts StoI, StoJ, LawT, CleanA, PlainBorn in one. No conditions. -/
import Derived.Test.YthjdpplgfdihoaaGreatDoorBunAU
import Derived.Test.YthjdpplgfdihoaaGreatDoorBunAW
import Derived.Test.YthjdpplgfdihoaaGreatDoorBunAV

set_option linter.unusedSimpArgs false
set_option linter.unusedVariables false
set_option maxRecDepth 100000
set_option maxHeartbeats 16000000
namespace Go.Proofs.YthjdpplgfdihoaaGreatDoor
section
open Go Go.RowKit Go.Lib Go.Shelf
variable {w w1 w2:World} {X X1 X2:Dw} {S S1 S2:Sd} {Y Y1 Y2:Yw} {V V1 V2:Sv}
theorem Gw.vy3 (d:Sd) (M:Gs) (nm:List UInt8):(Gw.rewrite d M nm).2.1.v=M.v:=by
 unfold Gw.rewrite Gw.tmp Gw.hd Gw.sd1 Gw.ren Gw.fin
 repeat' split
 all_goals rfl
theorem cq2 (S:Sd):∀(l:List (List UInt8)),(∀s∈l,St.by1 s=false)→St.wipe l S=(S,0)
 |[],_=>rfl
 |s::r,h=>by
  unfold St.wipe;rw[h s m_];exact cq2 S r (fun x hx=>h x (f_ _ hx))
def iz2 (X:Dw) (w:World) (S':Sd) (V':Sv) (e:Ending) (w':World):Prop:=∃X' Y,e=.returned (.tuple #[.pointer (some ⟨Y.s,0,none⟩),.int .i64 0])∧X'.d=X.d∧SvAt w' X' S' Y V'∧Chg X.foot w w'∧(∀g∈XY X' Y,g∈X.foot∨w.heap.size≤g)
theorem az3 (h:Dm w X S) (hno:∀s∈S.list,St.by1 s=false) (hld:S.load≤100000000000) (S':Sd) (V':Sv) (hR:St.create S=(S',some V',0)):
  Calls Tryz.prog 78 #[.pointer (some ⟨X.d,0,none⟩)] w (iz2 X w S' V'):=by
 have hlist:=(Acc.start (F:=[]) h).list;have hnl:=pz1 h.wf;have hnm:=lv1 h.wf;have hio:∀k (hk:k < S.list.length) W,Below w.heap.size w W→Calls Tryz.prog 150 #[.string (str S.list[k])] W fun e w'=>e=.returned (.bool false)∧Below W.heap.size W w':=fun k hk W hb=>by
  have:=rz2 S.list[k] (by have:=oz1 (hnm _ (v_ hk));omega) W (h.env.below hb);rw[hno _ (v_ hk)]at this;exact this
 unfold St.create at hR;rw[cq2 S _ hno]at hR;simp only[ne_eq,not_true_eq_false,if_false]at hR;have hl1:=Sd.dy1 S St.jy;have hnew:∀W,Below w.heap.size w W→Calls Tryz.prog 151 #[.pointer (some ⟨X.d,0,none⟩),.string { data:=#[108,111,103,46,49] }] W (ij4 X W St.jy (S.create St.jy)):=fun W hb=>jk3 X S St.jy W (by decide) (by omega) (h.below hb);obtain⟨a,ha⟩:=n_ (S.create St.jy);rw[←ha]at hR hnew hl1;obtain⟨S1,er1⟩:=a;simp only at hR hl1;have h1:er1=0:=by
  apply aT_;intro h1;rw[if_pos h1]at hR;simp at hR
 subst h1;simp only[not_true_eq_false,if_false]at hR;have hnew2:∀W,Below w.heap.size w W→Calls Tryz.prog 151 #[.pointer (some ⟨X.d,0,none⟩),.string { data:=#[108,111,103,46,49] }] W fun e w'=>∃g X',e=.returned (.tuple #[.pointer (some ⟨g,0,none⟩),.int .i64 0])∧X'.d=X.d∧Dm w' X' S1∧Chg X.foot W w'∧(∀g∈X'.foot,g∈X.foot∨W.heap.size≤g)∧LgAt w' g X.d St.jy 0 0∧W.heap.size≤g∧g∉X'.foot:=fun W hb=>(hnew W hb).mono fun e w' ⟨X',q1,q2,q3,q4,q5⟩=>by
  rcases q5 with ⟨q,_⟩|⟨_,g,q6,q7,q8,q9⟩
  ·exact absurd rfl q
  ·exact⟨g,X',q6,q1,q2,q3,q4,q7,q8,q9⟩
 have hl2:=Sd.bw1 S1 St.jy;obtain⟨b,hb⟩:=n_ (S1.sync St.jy);rw[←hb]at hR hl2;obtain⟨S2,er2⟩:=b;simp only at hR hl2;have h2:er2=0:=by
  apply aT_;intro h2;rw[if_pos h2]at hR;simp at hR
 subst h2;simp only[not_true_eq_false,if_false]at hR;obtain⟨r,hr⟩:=n_ (Gw.rewrite S2 St.first (Mn.name Mn.kMan 1))
 have hrv:r.2.1.v=St.first.v:=by rw[hr];exact Gw.vy3 _ _ _
 rw[←hr]at hR;have h3:r.2.2=0:=by
  apply aT_;intro h3;rw[if_pos h3]at hR;simp at hR
 rw[if_neg (by simp[h3])]at hR;simp only[bK_,ax_,and_true]at hR;obtain⟨hS',hV'⟩:=hR;have hbase:=h.env.base;generalize S.list=Ls at hlist hnl hnm hno hio;have HH:=H_ h;have HL:=H_ hlist;have HIO:=H_ hio;have HNEW:=H_ hnew2;have HSY:=H_ hb;have HRW:=H_ (d_ hr (d_ h3 hrv));have HV:=H_ (d_ hS' hV');have HLD:=H_ (show S2.load≤1000000000000 by omega);clear h hlist hio hnew hnew2 ha hl1 hb hl2 hr hrv h3 hS' hV' hld hno hnm;go_enter Tryz.func78,Tryz.ntmps78;go_wp2_with fail
 with_reducible refine HL.out.mono ?_
 rintro e w1 ⟨A,c,rfl,ho,hb1⟩;have hrow:=Row.own ho;obtain⟨n,hn⟩:=n_ Ls.length;have hn64:n≤64:=by omega
 rw[←hn]at hrow;rw[←hn];have HROW:=H_ hrow;have HN:=H_ hn;clear ho hrow hn HL;go_wp2
 go_loopw [14] (fun i wr=>∃k:Nat,k≤n∧i=.int .i64 (k:Int)∧Below w.heap.size w wr∧Below w1.heap.size w1 wr) (fun i _=>n - (intOf i).toNat)
 case atStart=>exact⟨0,t_ _,rfl,hb1,Below.refl _ _⟩
 case round=>
  obtain⟨k,hk,rfl,hbw,hbl⟩:=hrel
  by_cases hlt:k < n
  ·obtain⟨p,hl,rfl,hbk,c0⟩:=(HROW.out.below hbl).enc hlt
   have hio:=HIO.out k hl wr hbw;generalize Ls[k]=s at *;have HI:=H_ hio;clear hio hl;go_wp2_with fail
   with_reducible refine HI.out.mono ?_
   rintro e w2 ⟨rfl,hb2⟩;have hbz:=az hbw hb2;have hbz1:=az hbl hb2;clear hb2 HI;go_wp2;go_roundw
   case rel=>exact⟨k+1,by omega,by go_num,hbz,hbz1⟩
   case measure=>simp[intOf];omega
  ·go_wp2_with fail
   with_reducible refine(HNEW.out wr hbw).mono ?_
   rintro e w2 ⟨g,X1,rfl,e1,hd1,hc1,hf1,hlg,hgl,hgo⟩;have hgw:w.heap.size≤g:=h_ hbw.size hgl;have hsy:=yq1 X1 S1 g St.jy 0 0 w2 (by decide) hd1 (by rw[e1];exact hlg) hgo;rw[←HSY.out]at hsy;have HS:=H_ hsy;have HD:=H_ hd1;have HC1:=H_ (d_ ((Chg.of_below hbw X.foot).trans hc1 (fun g hg=>.inl hg)) (fun g hg=>(hf1 g hg).imp id (h_ hbw.size):∀g∈X1.foot,g∈X.foot∨w.heap.size≤g));have HLG:=H_ (d_ hlg (d_ hgw hgo));have HE1:=H_ e1;clear hsy hd1 hc1 hf1 hlg hgl hgo hgw e1 hbw hbl HNEW HIO HROW hb1;go_wp2_with fail
   with_reducible refine HS.out.mono ?_
   rintro e w3 ⟨rfl,X2,e2,hd2,hc2,hf2⟩;have hlg3:=HLG.out.1.chg hc2 HLG.out.2.2;have hg2:g∉X2.foot:=fun hm=>by
    rcases hf2 g hm with q|q
    ·exact HLG.out.2.2 q
    ·have:=HLG.out.1.lt
     omega
   have hc3:=HC1.out.1.trans hc2 HC1.out.2;have hf3:∀g∈X2.foot,g∈X.foot∨w.heap.size≤g:=fun g hg=>by
    rcases hf2 g hg with q|q
    ·exact HC1.out.2 g q
    ·exact .inr (h_ HC1.out.1.size q)
   have hmn:=ry4 (w:=w3) (X:=X2) (S:=S2) ⟨1,[],0,0,0,0⟩ none 0 0 (by decide) (by omega) (by omega) z_ Row.nil_ HLD.out hd2 _ HRW.out.1 HRW.out.2.1;rw[e2,HE1.out]at hmn;unfold Vw.val at hmn;simp only[b9_]at hmn;have HMN:=H_ hmn;have HLG3:=H_ (d_ hlg3 hg2);have HC3:=H_ (d_ hc3 hf3);have HE2:=H_ (e2.trans HE1.out);clear hmn hlg3 hg2 hc3 hf3 e2 hd2 hc2 hf2 HS HD HC1;go_wp2_with fail
   with_reducible refine HMN.out.mono ?_
   rintro e w4 ⟨P,m,X3,rfl,hbn⟩;have hnw:=vz2 w4;have HNW:=H_ hnw;have HBN:=H_ hbn;clear hnw hbn HMN;go_wp2_with fail
   with_reducible refine HNW.out.mono ?_
   rintro e w5 ⟨mm,L,ns,rfl,hmm,hits,hb5,hlow⟩;have hfin:iz2 X w S' V' (.returned (.tuple #[.pointer (some ⟨w5.heap.size,0,none⟩),.int .i64 0])) (w5.alloc (.cells #[.pointer (some ⟨X.d,0,none⟩),.pointer (some ⟨m,0,none⟩),.pointer (some ⟨g,0,none⟩),.pointer (some ⟨mm,0,none⟩),.slice none 0 0,.slice none 0 0,.int .i64 0,.int .u32 0,.int .i32 0,.int .u32 0,.bool false] 153)):=by
    obtain⟨hS',hV'⟩:=HV.out;subst hS' hV';have bn:=HBN.out;have hbA:=b_ w5 (.cells #[.pointer (some ⟨X.d,0,none⟩),.pointer (some ⟨m,0,none⟩),.pointer (some ⟨g,0,none⟩),.pointer (some ⟨mm,0,none⟩),.slice none 0 0,.slice none 0 0,.int .i64 0,.int .u32 0,.int .i32 0,.int .u32 0,.bool false] 153);have hbx:=BoxO.new w5 #[.pointer (some ⟨X.d,0,none⟩),.pointer (some ⟨m,0,none⟩),.pointer (some ⟨g,0,none⟩),.pointer (some ⟨mm,0,none⟩),.slice none 0 0,.slice none 0 0,.int .i64 0,.int .u32 0,.int .i32 0,.int .u32 0,.bool false] 153;have hb45:=az hb5 hbA;have z3:w3.heap.size≤w4.heap.size:=bn.c.size;have z4:=hb5.size;have zg:=HLG3.out.1.lt;have zm:=bn.new;have zm4:=bn.man.lt;have zl:∀g∈mm::skF L ns,w4.heap.size≤g∧g < w5.heap.size:=fun g hg=>⟨hlow g hg,hmm.lt g hg⟩;have zx:∀g∈X3.foot,g < w4.heap.size:=bn.dm.dk.lt;have zw:w.heap.size≤w3.heap.size:=HC3.out.1.size;have hg3:g∉X3.foot:=fun hm=>by
     rcases bn.f g hm with q|q
     ·exact HLG3.out.2 q
     ·omega
    have e3:X3.d=X.d:=bn.e.trans HE2.out;refine⟨X3,⟨w5.heap.size,m,g,mm,L,ns,P,⟨none,0,0⟩,⟨none,0,0⟩,[]⟩,rfl,e3,⟨bn.dm.below hb45,by rw[e3];exact hbx,by rw[bn.e];exact bn.man.below hb45,bn.row.below hb45,fun j hj a ha=>?_,by rw[e3];exact(HLG3.out.1.chg bn.c HLG3.out.2).below hb45,hmm.below hbA,hits,fun _ _=>⟨rfl,Row.nil_,x_ _,t_ _,fun _=>⟨rfl,rfl⟩,fun p hp=>by cases hp⟩,fun _ _=>Its.nil 0 _,⟨?_,?_,?_,fun hm=>?_⟩,?_⟩,?_,?_⟩
    ·exfalso
     have q:=HRW.out.2.2;change j < (ax r.2.1.v.files).length at hj;rw[q]at hj;exact Nat.not_lt_zero _ hj
    ·intro x hx hm
     have:=zx x hm
     rcases Yw.aj.1 hx with q|q|q|q|q
     ·have:x=w5.heap.size:=q
      omega
     ·exact bn.away (by rw[←show x=m from q];exact hm)
     ·exact hg3 (by rw[←show x=g from q];exact hm)
     ·have:=zl x (by rw[show x=mm from q];exact m_)
      omega
     ·have:=zl x (f_ _ q)
      omega
    ·intro hm
     rcases g_.1 hm with q|q
     ·have:w5.heap.size=m:=q
      omega
     ·rcases g_.1 q with q|q
      ·have:w5.heap.size=g:=q
       omega
      ·have:=zl _ q
       simp only at this;omega
    ·intro hm
     rcases g_.1 hm with q|q
     ·have:m=g:=q
      omega
     ·have:=zl _ q
      simp only at this;omega
    ·have:=zl _ hm
     simp only at this;omega
    ·intro x hx
     rcases Yw.aj.1 hx with q|q|q|q|q
     ·have:x=w5.heap.size:=q
      omega
     ·have:x=m:=q
      omega
     ·have:x=g:=q
      have:=HLG.out.2.1;omega
     ·have:=zl x (by rw[show x=mm from q];exact m_)
      omega
     ·have:=zl x (f_ _ q)
      omega
    ·exact(HC3.out.1.trans bn.c HC3.out.2).trans (Chg.of_below hb45 []) (fun g hg=>by cases hg)
    ·intro x hx
     rcases q_.1 hx with q|q
     ·rcases bn.f x q with q|q
      ·exact HC3.out.2 x q
      ·exact .inr (by omega)
     ·right
      rcases Yw.aj.1 q with q|q|q|q|q
      ·have:x=w5.heap.size:=q
       omega
      ·have:x=m:=q
       omega
      ·have:x=g:=q
       have:=HLG.out.2.1;omega
      ·have:=zl x (by rw[show x=mm from q];exact m_)
       omega
      ·have:=zl x (f_ _ q)
       omega
   have HF:=H_ hfin;clear hfin hmm hits hb5 hlow HNW HBN;go_wp2;refine bodyPost_ret (v:=.tuple #[.pointer (some ⟨w5.heap.size,0,none⟩),.int .i64 0]) (by simp[results,go_sem]) rfl HF.out
end
section
open Go Go.RowKit Go.Lib Go.Shelf
variable {w w1 w2:World} {X X1 X2:Dw} {S S1 S2:Sd} {Y Y1 Y2:Yw} {V V1 V2:Sv}
theorem sw3 (hno:∀s∈S.list,St.by1 s=false):St.fy4 S=true:=by
 unfold St.fy4;have:(S.list.any fun s=>St.by1 s&&!St.isNone S s)=false:=by
  rw[S_];intro s hs;rw[hno s hs];simp
 rw[this];rfl
theorem iq4 (h:Dm w X S) (hd:S.dead=false) (hno:∀s∈S.list,St.by1 s=false) (hld:S.load≤100000000000) (S':Sd) (V':Sv) (hR:St.create S=(S',some V',0)):
  Calls Tryz.prog 31 #[.pointer (some ⟨X.d,0,none⟩)] w (iz2 X w S' V'):=by
 have hin:=eq4 X S w h;rw[sw3 hno]at hin;have hcr:∀W,Below w.heap.size w W→Calls Tryz.prog 78 #[.pointer (some ⟨X.d,0,none⟩)] W (iz2 X w S' V'):=fun W hb=>(az3 (h.below hb) hno hld S' V' hR).mono fun e w' ⟨X',Y,q1,q2,q3,q4,q5⟩=>⟨X',Y,q1,q2,q3,(Chg.of_below hb X.foot).trans q4 (fun g hg=>.inl hg),fun g hg=>(q5 g hg).imp id (h_ hb.size)⟩;have c6:=h.dk.box.cell 6;simp only[Dw.cells,gE0,gE1]at c6;rw[hd]at c6;have HIN:=H_ hin;have HCR:=H_ hcr;clear h hd hin hcr hno hR hld;go_enter Tryz.func31,Tryz.ntmps31;go_wp2_with (first|(go_at_call 40;go_in)|fail)
 with_reducible refine HIN.out.mono ?_
 rintro e w1 ⟨rfl,hb1⟩;go_wp2_with fail
 with_reducible refine(HCR.out w1 hb1).mono ?_
 rintro e w2 ⟨X',Y,rfl,h2⟩;have HZ:Hid (iz2 X w S' V' (.returned (.tuple #[.pointer (some ⟨Y.s,0,none⟩),.int .i64 0])) w2):=H_ ⟨X',Y,rfl,h2⟩;clear h2 hb1 HIN HCR;go_wp2;go_ret2;exact HZ.out
end
section
open Go Go.RowKit Go.Lib Go.Shelf
variable {w w1 w2:World} {X X1 X2:Dw} {S S1 S2:Sd} {Y Y1 Y2:Yw} {V V1 V2:Sv}
end
section
open Go Go.RowKit Go.Lib
def qj1 (w:World) (R:List It) (e:Ending) (w':World):Prop:=∃A' k c',e=.returned (.slice A' k k)∧k=R.length∧w'.ownsRow w.heap.size 36 5 (.slice A' k c') k (itc R)∧k≤c'∧c'≤maxLen∧Below w.heap.size w w'
theorem uj1 {W:World} {b s n c:Nat} {t:TypeId} {A:Option Addr} {xs:List Value} (h:W.ownsRow b t s (.slice A n c) n xs):n≤c∧c≤maxLen∧∀a,A=some a→b≤a.block:=by
 obtain⟨P,c0,q1,q2,q3,q4⟩:=dw h;injection q1 with q1 _ qc;subst q1 qc;exact⟨q2,q3,fun a ha=>(q4 a ha).1⟩
theorem kk2 {w w1:World} {A:Option Addr} (hc:∀F,(∀a,A=some a→F=[a.block])→Chg F w w1):Chg (A.map (·.block)).toList w w1:=hc _ fun a ha=>by subst ha;rfl
theorem TmAt.chg {w w1:World} {b:Nat} {l:List It} {G:List Nat} (h:TmAt w b l) (c:Chg G w w1) (hb:b∉G):TmAt w1 b l:=by
 obtain⟨es,clock,h1,h2⟩:=h;exact⟨es,clock,(c.block b (w_.1 h1).1 hb).trans h1,h2⟩
theorem zx1 {A:Option Addr} {g:Nat} (h:∀a,A=some a→a.block≠g):g∉(A.map (·.block)).toList:=by
 cases A with
 |none=>simp
 |some a=>simpa using fun e=>h a rfl e.symm
theorem clean_any (A:Option Addr) (n c:Nat) (l:List It) (w:World) (hn:n≤1000000) (hr:Row w.heap.size w A n 5 (itc l)):
  Calls Tryz.prog 217 #[.slice A n c] w (qj1 w (clean l)):=by
 obtain⟨i0,hi0,hz0,hz1,hz2⟩:=info_parts rq;have HR:=H_ hr;clear hr;go_enter Tryz.func217,Tryz.ntmps217;go_wp2_with (at_builtin;refine iy ?_);refine gz (ry rfl _ (.tmp 3) _ rfl w.heap.size 36 i0 _ 5 40 Tryz.underlying31 hi0 hz0 hz1 hz2 rfl (by omega) w b0_ l_ rfl w.heap.size A n c (itc l) rfl HR.out (xq l) (by unfold maxLen;omega) (by omega) ?_);intro A1 c1 w1 h1 h2 h3 h4 h5;have hhd:=uv3 A n c l w1 hn ((HR.out.below h2).up h2.size);have HH:=H_ hhd;have H1:=H_ (d_ h1 h2);clear hhd h1 h2 h3;go_wp2_with fail;refine HH.out.mono ?_;rintro e w2 ⟨g,b,rfl,hh,⟨hg,hb⟩,hb2⟩;have ho2:=own_below H1.out.1 hb2;have hw2:=az H1.out.2 hb2;have hlt:∀a,A1=some a→a.block < w1.heap.size:=fun a ha=>(H1.out.1.lt a.block (by subst ha;rfl)).2;have hdf:=nz1 319 (fun _ _=>rfl) #[.pointer (some ⟨g,0,none⟩)] (fun x=>hidden l x) w.heap.size A1 n c1 c1 l w2 hn h4 l_ hw2.size ho2 (fun x w3 hc=>by
  have c3:=kk2 hc;exact pz3 x g b l w3 ⟨hh.1.chg c3 (zx1 fun a ha=>by have:=hlt a ha;omega),hh.2.chg c3 (zx1 fun a ha=>by have:=hlt a ha;omega)⟩)
 have HD:=H_ hdf;have HW:=H_ hw2;clear hdf ho2 hh hb2 hlt HH H1 hw2;go_wp2_with fail;refine HD.out.mono ?_;rintro e w3 ⟨k,A3,rfl,hk,ho3,hb3⟩;obtain⟨q2,q3,_⟩:=uj1 ho3;have HC:=H_ (kk1 A3 k c1 w3 q2);have H3:=H_ (show qj1 w (clean l) (.returned (.slice A3 k k)) w3 from ⟨A3,k,c1,rfl,hk,ho3,q2,q3,HW.out.trans hb3⟩);clear hk ho3 hb3 HD HW;go_wp2_with fail;refine HC.out.mono ?_;rintro e w4 ⟨rfl,rfl⟩;go_wp2;go_ret;exact H3.out
theorem zv1 (A:Option Addr) (n c:Nat) (l:List It) (v:Nat) (w:World) (hn:n≤1000000) (hr:Row w.heap.size w A n 5 (itc l)):
  Calls Tryz.prog 140 #[.slice A n c,.int .u64 (v:Int)] w (qj1 w (fz1 (clean l) v)):=by
 have hbV:=b_ w (.cells #[.int .u64 (v:Int)] 22);have hbx:=BoxO.new w #[.int .u64 (v:Int)] 22;have hcl:=clean_any A n c l (w.alloc (.cells #[.int .u64 (v:Int)] 22)) hn ((hr.below hbV).up hbV.size);have hln:(clean l).length≤1000000:=h_ (ay_ _ _) (by have:=hr.uz;omega);have HC:=H_ hcl;have HX:=H_ (d_ hbV hbx);have HL:=H_ hln;clear hcl hbV hbx hr hln;go_enter Tryz.func140,Tryz.ntmps140;go_wp2_with fail;refine HC.out.mono ?_;rintro e w1 ⟨A1,k1,c1,rfl,hk1,ho1,hc1,hc2,hb1⟩;have HK1:=H_ hk1;clear hk1;have hbx1:=HX.out.2.below hb1;have hw1:=az HX.out.1 hb1;have hlw:w.heap.size < (w.alloc (.cells #[.int .u64 (v:Int)] 22)).heap.size:=by rw[A_];omega
 have hlo:∀a,A1=some a→a.block≠w.heap.size:=fun a ha=>by
  have:=(uj1 ho1).2.2 a ha;omega
 have hdf:=nz1 218 (fun _ _=>rfl) #[.pointer (some ⟨w.heap.size,0,none⟩)] (fun x=>x.k==1&&decide (x.v≤v)) w.heap.size A1 k1 k1 c1 (clean l) w1 (by rw[HK1.out];exact HL.out) l_ hc1 hw1.size (own_base ho1 (by omega)) (fun x w3 hc=>ty2 x v w.heap.size w3 (by
  have hb3:=hbx1.chg (kk2 hc) (zx1 hlo);exact hb3.cell 0))
 have HD:=H_ hdf;have HW:=H_ hw1;clear hdf ho1 hbx1 hb1 hlo hlw HC HX hw1;go_wp2_with fail;refine HD.out.mono ?_;rintro e w3 ⟨k,A3,rfl,hk,ho3,hb3⟩;obtain⟨q2,q3,_⟩:=uj1 ho3;have hkk:k≤k1:=by rw[hk,HK1.out];exact ay_ _ _
 have HC:=H_ (kk1 A3 k k1 w3 hkk);have H3:=H_ (show qj1 w (fz1 (clean l) v) (.returned (.slice A3 k k)) w3 from ⟨A3,k,c1,rfl,hk,ho3,q2,q3,HW.out.trans hb3⟩);clear hk ho3 hb3 HD HW;go_wp2_with fail;refine HC.out.mono ?_;rintro e w4 ⟨rfl,rfl⟩;go_wp2;go_ret;exact H3.out
end
section
open Go
open Calm (ej1)
theorem ry3 {s:List UInt8} (h:St.by1 s=false):Mn.number s Mn.kMan=none∧Mn.number s Mn.kLog=none∧s≠Mw.kCur∧s≠Mw.jk:=by
 unfold St.by1 at h;simp only[bR_,List.any_cons,List.any_nil,bV_]at h;obtain⟨⟨h1,h2⟩,h3,h4,h5⟩:=h;refine⟨by cases hq:Mn.number s Mn.kMan<;>simp[hq]at h5 ⊢,by cases hq:Mn.number s Mn.kLog<;>simp[hq]at h3 ⊢,by simpa using h1,by simpa using h2⟩
namespace Gw
open Mn
open Mw (kCur jk headB sweep man zq1 nq2 px2 cv2 fv1 rx1 rw1 lq1)
theorem nj2 {d:Sd} {M:Gs} (hv:M.v.ok=true) {k B:Nat} {K:List (List UInt8)} (h:Calm d) (hk1:1≤k) (hk2:k≤1073741824) (hs0:Small d K B) (hK:K.length≤40) (ht0:cont d jk=none) (hnone:cont d (man k)=none)
  (hB:2100≤B) (hq:(K.length+4)*B≤d.quota):
  ∃d6,Calm d6∧cont d6=upd (upd (upd (upd (cont d) (man k) (some (M.v.whole.rec_))) jk (some (headB k))) kCur (some (headB k))) jk none∧d6.quota=d.quota∧rewrite d M (man k)=(sweep (man k) d6.list d6,{ M with name:=man k,count:=1 },0):=by
 have hr:=Ed.sq1 (Vw.cx2 hv);have hh:=ux2 k;have hnum:(number (man k) kMan).getD 0=(k:Int):=by rw[rx1 hk1 hk2];rfl
 obtain⟨Q,hQ⟩:=n_ (K.length *B);have e1:(K.length+4)*B=Q+4 *B:=by rw[bl_,←hQ]
 have e2:(K.length+1)*B=Q+B:=by rw[bl_,←hQ,Nat.one_mul]
 have e3:(K.length+1+1)*B=Q+2 *B:=by rw[Nat.add_assoc,bl_,←hQ]
 obtain⟨a1,a2,a3,a4⟩:=h.write (zq1 hk1 hk2) hnone hs0 (by omega) M.v.whole.rec_ (by omega) (by omega);have htk:jk≠man k:=(nq2 hk1 hk2).symm;have ht1:cont (d.write (man k) M.v.whole.rec_).1 jk=none:=by rw[a3,upd,if_neg htk];exact ht0
 have hrd:=a2.xw3 fv1 ht1;have hs1:Small (d.write (man k) M.v.whole.rec_).1 (man k::K) B:=⟨fun s x hx=>by
  rw[a3,upd]at hx;split at hx
  ·subst_vars;simp
  ·exact f_ _ (hs0.names s x hx),fun s x hx=>by
  rw[a3,upd]at hx;split at hx
  ·injection hx with hx;subst hx;omega
  ·exact hs0.len s x hx⟩
 obtain⟨b1,b2,b3,b4⟩:=a2.write fv1 ht1 hs1 (by simp;omega) (headB k) (by omega) (by rw[r_];omega);obtain⟨e1,e2,e3,e4⟩:=b2.ay;have htm:cont ((d.write (man k) M.v.whole.rec_).1.write jk (headB k)).1.ay.1 jk=some (headB k):=by rw[e3,b3,upd,if_pos rfl]
 obtain⟨f1,f2,f3,f4⟩:=e2.rename fv1 cv2 px2.symm htm;obtain⟨g1,g2,g3,g4⟩:=f2.ay;refine⟨(((((d.write (man k) M.v.whole.rec_).1.write jk (headB k)).1.ay).1.rename jk kCur).1.ay).1,g2,?_,?_,?_⟩
 ·rw[g3,f3,e3,b3,a3]
 ·rw[g4,f4,e4,b4,a4]
 ·unfold rewrite
  rw[if_neg (by simp[a1]),tmp,if_neg (by rw[hrd];simp),hd,hnum,if_neg (by simp[b1]),sd1,if_neg (by simp[e1]),ren,if_neg (by simp[f1]),fin,if_neg (by simp[g1])]
end Gw
theorem tv2 {d:Sd} {K:List (List UInt8)} {B:Nat} (h:Calm d) (hs0:Small d K B) (hK:K.length≤30) (hno:∀s x,cont d s=some x→St.by1 s=false) (hB:2100≤B) (hq:(K.length+5)*B≤d.quota):
  ∃d6,St.create d=(d6,some ⟨{ St.first with name:=Mw.man 1,count:=1 },St.jy,0,0,[],[],[],false⟩,0)∧Calm d6∧d6.quota=d.quota∧
   cont d6=upd (upd (upd (upd (upd (cont d) St.jy (some [])) (Mw.man 1) (some (St.first.v.whole.rec_))) Mw.jk (some (Mw.headB 1))) Mw.kCur (some (Mw.headB 1))) Mw.jk none:=by
 have own1:St.by1 St.jy=true:=by decide+kernel
 have own2:St.by1 (Mw.man 1)=true:=by decide+kernel
 have own3:St.by1 Mw.jk=true:=by decide+kernel
 have hnone:∀s,St.by1 s=true→cont d s=none:=fun s hs=>by
  cases hc:cont d s with
  |none=>rfl
  |some x=>rw[hno s x hc]at hs;cases hs
 have hw:=cq2 d d.list (fun s hs=>by
  obtain⟨x,hx⟩:=h.ej1.1 hs;exact hno s x hx)
 obtain⟨ln,lu⟩:=h.qj hs0;obtain⟨a1,a2,a3,a4⟩:=h.create (s:=St.jy) (by decide+kernel) (hnone _ own1) (by omega);obtain⟨b1,b2,b3,b4⟩:=a2.sync (s:=St.jy) (by decide+kernel) (x:=[]) (by rw[a3,upd,if_pos rfl]);have hs1:Small ((d.create St.jy).1.sync St.jy).1 (St.jy::K) B:=⟨fun s x hx=>by
  rw[b3,a3,upd]at hx;split at hx
  ·subst_vars;simp
  ·exact f_ _ (hs0.names s x hx),fun s x hx=>by
  rw[b3,a3,upd]at hx;split at hx
  ·injection hx with hx;subst hx;simp
  ·exact hs0.len s x hx⟩
 have ne1:Mw.jk≠St.jy:=by decide
 have ne2:Mw.man 1≠St.jy:=by decide+kernel
 obtain⟨d6,c1,c2,c3,c4⟩:=Gw.nj2 (M:=St.first) (by decide+kernel) (k:=1) b2 (by omega) (by omega) hs1 (by rw[r_];omega) (by rw[b3,a3,upd,if_neg ne1];exact hnone _ own3) (by rw[b3,a3,upd,if_neg ne2];exact hnone _ own2) hB (by rw[b4,a4,r_];exact hq);have hsw:Mw.sweep (Mw.man 1) d6.list d6=d6:=Mw.lq1 _ _ _ (fun s hs hn=>by
  obtain⟨x,hx⟩:=c1.ej1.1 hs;rw[c2,b3,a3]at hx;unfold upd at hx;split at hx
  ·cases hx
  ·split at hx
   ·rename_i h2
    rw[h2,Mw.rw1]at hn
    cases hn
   ·split at hx
    ·assumption
    ·split at hx
     ·rename_i h2
      rw[h2,show Mn.number St.jy Mn.kMan=none from by decide+kernel]at hn
      cases hn
     ·rw[(ry3 (hno s x hx)).1]at hn
      cases hn)
 refine⟨d6,?_,c1,by rw[c3,b4,a4],by rw[c2,b3,a3];rfl⟩;unfold St.create;rw[hw];simp only[ne_eq,not_true_eq_false,if_false,a1,b1];rw[show Mn.name Mn.kMan 1=Mw.man 1 from rfl,c4,hsw];simp
end
end Go.Proofs.YthjdpplgfdihoaaGreatDoor
