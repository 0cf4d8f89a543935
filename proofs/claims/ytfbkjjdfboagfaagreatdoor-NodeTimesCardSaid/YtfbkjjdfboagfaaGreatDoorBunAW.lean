/- Some of the texts. No conditions. -/
import Derived.Test.YtfbkjjdfboagfaaGreatDoorBunAS

set_option linter.unusedSimpArgs false
set_option linter.unusedVariables false
set_option maxRecDepth 100000
set_option maxHeartbeats 16000000
namespace Go.Proofs.YtfbkjjdfboagfaaGreatDoor
open Go.Proofs.Tryz Go Go.RowKit Go.Lib Go.Shelf
section
variable {w w1 w2:World} {X X1 X2:Dw} {S S1 S2:Sd} {Y Y1 Y2:Yw} {V V1 V2:Sv}
theorem Gw.ww4 (d:Sd) (M:Gs) (nm:List UInt8):(Gw.rewrite d M nm).2.1.v=M.v:=by
 unfold Gw.rewrite Gw.tmp Gw.hd Gw.sd1 Gw.ren Gw.fin
 repeat' split
 all_goals rfl
theorem mq2 (S:Sd):∀(l:List (List UInt8)),(∀s∈l,St.cx1 s=false)->St.wipe l S=(S,0)
 |[],_=>rfl
 |s::r,h=>by
  unfold St.wipe;rw[h s p_];exact mq2 S r (fun x o=>h x (f_ _ o))
def ak2 (X:Dw) (w:World) (S':Sd) (V':Sv) (e:Ending) (w':World):Prop:=∃X' Y,e=.returned (.tuple #[.pointer (some Y.s),.int .i64 0])/\X'.d=X.d/\SvAt w' X' S' Y V'/\Chg X.foot w w'/\(∀g∈XY X' Y,g∈X.foot\/(w:Nat)<=g)
theorem tj3 (h:Dm w X S) (a7:∀s∈S.list,St.cx1 s=false) (h9:S.load<=100000000000) (S':Sd) (V':Sv) (o:St.create S=(S',some V',0)):
  Calls prog 35 #[X.d] w (ak2 X w S' V'):=by
 have C:=(Acc.start (F:=[]) h).list;have i0:=pw1 h.wf;have b9:=kk1 h.wf;have J:∀k (hk:k < S.list.length) W,Below w w W->Calls prog 80 #[.string (str S.list[k])] W fun e w'=>e=.returned (.bool false)/\Below W.heap.size W w':=fun k hk W hb=>by
  have:=gw2 S.list[k] (by have:=ey1 (b9 _ (w_ hk));omega) W (h.env.below hb);rw[a7 _ (w_ hk)]at this;exact this
 unfold St.create at o;rw[mq2 S _ a7]at o;simp only[ne_eq,not_true_eq_false,if_false]at o;have b':=Sd.iz1 S St.jw;have a0:∀W,Below w w W->Calls prog 82 #[X.d,.string { data:=#[108,111,103,46,49] }] W (tq4 X W St.jw (S.create St.jw)):=fun W hb=>xy3 X S St.jw W (by decide) o_ (h.below hb);obtain⟨a,ha⟩:=n_ (S.create St.jw);rw[<-ha]at o a0 b';obtain⟨S1,i2⟩:=a;simp only at o b';have h1:i2=0:=by
  apply aU_;intro h1;rw[if_pos h1]at o;simp at o
 subst h1;simp only[not_true_eq_false,if_false]at o;have a1:∀W,Below w w W->Calls prog 82 #[X.d,.string { data:=#[108,111,103,46,49] }] W fun e w'=>∃g X',e=.returned (.tuple #[.pointer (some ⟨g,0,none⟩),.int .i64 0])/\X'.d=X.d/\Dm w' X' S1/\Chg X.foot W w'/\(∀g∈X'.foot,g∈X.foot\/W.heap.size<=g)/\LgAt w' g X.d St.jw 0 0/\W.heap.size<=g/\g∉X'.foot:=fun W hb=>(a0 W hb).mono fun e w' ⟨X',q1,q2,q3,q4,q5⟩=>by
  rcases q5 with ⟨q,_⟩|⟨_,g,q6,q7,q8,q9⟩
  ·exact absurd rfl q
  ·exact⟨g,X',q6,q1,q2,q3,q4,q7,q8,q9⟩
 have c9:=Sd.cw1 S1 St.jw;obtain⟨b,hb⟩:=n_ (S1.sync St.jw);rw[<-hb]at o c9;obtain⟨S2,i3⟩:=b;simp only at o c9;have h2:i3=0:=by
  apply aU_;intro h2;rw[if_pos h2]at o;simp at o
 subst h2;simp only[not_true_eq_false,if_false]at o;obtain⟨r,hr⟩:=n_ (Gw.rewrite S2 St.first (Mn.name Mn.kMan 1))
 have e0:r.2.1.v=St.first.v:=by rw[hr];exact Gw.ww4 _ _ _
 rw[<-hr]at o;have h3:r.2.2=0:=by
  apply aU_;intro h3;rw[if_pos h3]at o;simp at o
 rw[if_neg (by simp[h3])]at o;simp only[bb_,aD_,and_true]at o;obtain⟨a9,a'⟩:=o;have i4:=h.env.base;generalize S.list=Ls at C i0 b9 a7 J;have HH:=H_ h;have HL:=H_ C;have e4:=H_ J;have b2:=H_ a1;have i5:=H_ hb;have d0:=H_ (d_ hr (d_ h3 e0));have HV:=H_ (d_ a9 a');have i6:=H_ (show S2.load<=1000000000000 by omega);clear h C J a0 a1 ha b' hb c9 hr e0 h3 a9 a' h9 a7 b9;go_enter func35,ntmps35;go_wp2_with fail
 refine m_ HL ?_
 rintro e w1 ⟨A,c,rfl,ho,e5⟩;have a2:=Row.own ho;obtain⟨n,hn⟩:=n_ Ls.length;have j8:n<=64:=o_
 rw[<-hn]at a2;rw[<-hn];have b3:=H_ a2;have HN:=H_ hn;clear ho a2 hn HL;go_wp2
 go_loopw [14] (fun i wr=>∃k:Nat,k<=n/\i=.int .i64 k/\Below w w wr/\Below w1 w1 wr) (fun i _=>n - (intOf i).toNat)
 case atStart=>exact⟨0,A_ _,rfl,e5,Below.refl _ _⟩
 case round=>
  obtain⟨k,hk,rfl,E,d1⟩:=hrel
  by_cases i7:k < n
  ·obtain⟨p,hl,rfl,k',c0⟩:=(b3.below d1).enc i7
   have J:=e4.out k hl wr E;generalize Ls[k]=s at *;have HI:=H_ J;clear J hl;go_wp2_with fail
   refine m_ HI ?_
   rintro e w2 ⟨rfl,d2⟩;have i8:=az E d2;have e6:=az d1 d2;clear d2 HI;go_wp2;go_roundw
   case rel=>exact⟨k+1,o_,by go_num,i8,e6⟩
   case measure=>simp[intOf];omega
  ·go_wp2_with fail
   with_reducible refine(b2.out wr E).mono ?_
   rintro e w2 ⟨g,X1,rfl,e1,d3,e7,e9,d4,e',d5⟩;have f0:(w:Nat)<=g:=g_ E.size e';have d6:=kv2 X1 S1 g St.jw 0 0 w2 (by decide) d3 (by rw[e1];exact d4) d5;rw[<-i5.out]at d6;have HS:=H_ d6;have HD:=H_ d3;have a4:=H_ (d_ ((Chg.of_below E X.foot).trans e7 (fun g hg=>.inl hg)) (fun g hg=>(e9 g hg).imp id (g_ E.size):∀g∈X1.foot,g∈X.foot\/(w:Nat)<=g));have O:=H_ (d_ d4 (d_ f0 d5));have f1:=H_ e1;clear d6 d3 e7 e9 d4 e' d5 f0 e1 E d1 b2 e4 b3 e5;go_wp2_with fail
   refine m_ HS ?_
   rintro e w3 ⟨rfl,X2,e2,f2,d7,d8⟩;have b5:=O.1.chg d7 O.2.2;have f3:g∉X2.foot:=fun Q=>by
    rcases d8 g Q with q|q
    ·exact O.2.2 q
    ·have:=O.1.lt
     omega
   have f4:=a4.1.trans d7 a4.2;have f5:∀g∈X2.foot,g∈X.foot\/(w:Nat)<=g:=fun g hg=>by
    rcases d8 g hg with q|q
    ·exact a4.2 g q
    ·exact .inr (g_ a4.1.size q)
   have a5:=fy5 (w:=w3) (X:=X2) (S:=S2) ⟨1,[],0,0,0,0⟩ none 0 0 (by decide) o_ o_ z_ Row.nil_ i6.out f2 _ d0.1 d0.2.1;rw[e2,f1.out]at a5;unfold Vw.val at a5;simp only[cB_]at a5;have f6:=H_ a5;have H:=H_ (d_ b5 f3);have b0:=H_ (d_ f4 f5);have j2:=H_ (e2.trans f1);clear a5 b5 f3 f4 f5 e2 f2 d7 d8 HS HD a4;go_wp2_with fail
   refine m_ f6 ?_
   rintro e w4 ⟨P,m,X3,rfl,f7⟩;have f8:=lv2 w4;have f9:=H_ f8;have g4:=H_ f7;clear f8 f7 f6;go_wp2_with fail
   refine m_ f9 ?_
   rintro e U ⟨mm,L,ns,rfl,d9,b6,d',b7⟩;have b8:ak2 X w S' V' (.returned (.tuple #[(U:Nat),.int .i64 0])) (U.alloc (.cells #[X.d,m,.pointer (some ⟨g,0,none⟩),mm,.slice none 0 0,.slice none 0 0,.int .i64 0,.int .u32 0,.int .i32 0,.int .u32 0,.bool false] 103)):=by
    obtain⟨a9,a'⟩:=HV.out;subst a9 a';have I:=g4.out;have g8:=b_ U (.cells #[X.d,m,.pointer (some ⟨g,0,none⟩),mm,.slice none 0 0,.slice none 0 0,.int .i64 0,.int .u32 0,.int .i32 0,.int .u32 0,.bool false] 103);have j3:=BoxO.new U #[X.d,m,.pointer (some ⟨g,0,none⟩),mm,.slice none 0 0,.slice none 0 0,.int .i64 0,.int .u32 0,.int .i32 0,.int .u32 0,.bool false] 103;have z:=az d' g8;have z3:(w3:Nat)<=(w4:Nat):=I.c.size;have z4:=d'.size;have zg:=H.1.lt;have zm:=I.new;have l2:=I.man.lt;have zl:∀g∈mm::skF L ns,(w4:Nat)<=g/\g < (U:Nat):=fun g hg=>⟨b7 g hg,d9.lt g hg⟩;have zx:∀g∈X3.foot,g < (w4:Nat):=I.dm.dk.lt;have zw:(w:Nat)<=(w3:Nat):=b0.1.size;have j4:g∉X3.foot:=fun Q=>by
     rcases I.f g Q with q|q
     ·exact H.2 q
     ·omega
    have e3:X3.d=X.d:=I.e.trans j2;refine⟨X3,⟨(U:Nat),m,g,mm,L,ns,P,⟨none,0,0⟩,⟨none,0,0⟩,[]⟩,rfl,e3,⟨I.dm.below z,by rw[e3];exact j3,by rw[I.e];exact I.man.below z,I.row.below z,fun j hj a ha=>?_,by rw[e3];exact(H.1.chg I.c H.2).below z,d9.below g8,b6,fun _ _=>⟨rfl,Row.nil_,B_ _,A_ _,fun _=>⟨rfl,rfl⟩,fun p hp=>by cases hp⟩,fun _ _=>Its.nil 0 _,⟨?_,?_,?_,fun Q=>?_⟩,?_⟩,?_,?_⟩
    ·exfalso
     have q:=d0.2.2;change j < (bz r.2.1.v.files).length at hj;rw[q]at hj;exact bY_ _ hj
    ·intro x hx Q
     have:=zx x Q
     rcases Yw.aj.1 hx with q|q|q|q|q
     ·have:x=(U:Nat):=q
      omega
     ·exact I.away (by rw[<-show x=m from q];exact Q)
     ·exact j4 (by rw[<-show x=g from q];exact Q)
     ·have:=zl x (by rw[show x=mm from q];exact p_)
      omega
     ·have:=zl x (f_ _ q)
      omega
    ·intro Q
     rcases h_.1 Q with q|q
     ·have:(U:Nat)=m:=q
      omega
     ·rcases h_.1 q with q|q
      ·have:(U:Nat)=g:=q
       omega
      ·have:=zl _ q
       simp only at this;omega
    ·intro Q
     rcases h_.1 Q with q|q
     ·have:m=g:=q
      omega
     ·have:=zl _ q
      simp only at this;omega
    ·have:=zl _ Q
     simp only at this;omega
    ·intro x hx
     rcases Yw.aj.1 hx with q|q|q|q|q
     ·have:x=(U:Nat):=q
      omega
     ·have:x=m:=q
      omega
     ·have:x=g:=q
      have:=O.2.1;omega
     ·have:=zl x (by rw[show x=mm from q];exact p_)
      omega
     ·have:=zl x (f_ _ q)
      omega
    ·exact(b0.1.trans I.c b0.2).trans (Chg.of_below z []) (fun g hg=>by cases hg)
    ·intro x hx
     rcases q_.1 hx with q|q
     ·rcases I.f x q with q|q
      ·exact b0.2 x q
      ·exact .inr o_
     ·right
      rcases Yw.aj.1 q with q|q|q|q|q
      ·have:x=(U:Nat):=q
       omega
      ·have:x=m:=q
       omega
      ·have:x=g:=q
       have:=O.2.1;omega
      ·have:=zl x (by rw[show x=mm from q];exact p_)
       omega
      ·have:=zl x (f_ _ q)
       omega
   have HF:=H_ b8;clear b8 d9 b6 d' b7 f9 g4;go_wp2;refine bodyPost_ret (v:=.tuple #[(U:Nat),.int .i64 0]) (by simp[results,go_sem]) rfl HF
theorem fq4 (o:∀s∈S.list,St.cx1 s=false):St.dv3 S=true:=by
 unfold St.dv3;have:(S.list.any fun s=>St.cx1 s&&!St.isNone S s)=false:=by
  rw[ab_];intro s z;rw[o s z];simp
 rw[this];rfl
theorem wy4 (h:Dm w X S) (hd:S.dead=false) (o:∀s∈S.list,St.cx1 s=false) (C:S.load<=100000000000) (S':Sd) (E:Sv) (hR:St.create S=(S',some E,0)):
  Calls prog 13 #[X.d] w (ak2 X w S' E):=by
 have z:=ay3 X S w h;rw[fq4 o]at z;have H:∀W,Below w w W->Calls prog 35 #[X.d] W (ak2 X w S' E):=fun W Q=>(tj3 (h.below Q) o C S' E hR).mono fun e w' ⟨X',Y,q1,q2,q3,q4,q5⟩=>⟨X',Y,q1,q2,q3,(Chg.of_below Q X.foot).trans q4 (fun g U=>.inl U),fun g U=>(q5 g U).imp id (g_ Q.size)⟩;have c6:=h.dk.box.cell 6;simp only[Dw.cells,gE0,gE1]at c6;rw[hd]at c6;have I:=H_ z;have J:=H_ H;clear h hd z H o hR C;go_enter func13,ntmps13;go_wp2_with (first|(go_at_call 33;go_in)|fail)
 refine m_ I ?_
 rintro e w1 ⟨rfl,O⟩;go_wp2_with fail
 with_reducible refine(J.out w1 O).mono ?_
 rintro e w2 ⟨X',Y,rfl,h2⟩;have HZ:Hid (ak2 X w S' E (.returned (.tuple #[Y.s,.int .i64 0])) w2):=H_ ⟨X',Y,rfl,h2⟩;clear h2 O I J;go_wp2;go_ret2;exact HZ
end
section
open Calm (ez1)
theorem bz4 {s:List UInt8} (h:St.cx1 s=false):Mn.number s Mn.kMan=none/\Mn.number s Mn.kLog=none/\s≠Mw.kCur/\s≠Mw.gy:=by
 unfold St.cx1 at h;simp only[cc_,List.any_cons,List.any_nil,cg_]at h;obtain⟨⟨h1,h2⟩,h3,h4,h5⟩:=h;refine⟨by cases o:Mn.number s Mn.kMan<;>simp[o]at h5 ⊢,by cases o:Mn.number s Mn.kLog<;>simp[o]at h3 ⊢,by simpa using h1,by simpa using h2⟩
namespace Gw
open Mn
open Mw (kCur gy headB sweep man iq1 kk2 iw1 lq1 ik1 vk dy1 fv1 px1)
theorem wy2 {d:Sd} {M:Gs} (hv:M.v.ok=true) {k B:Nat} {K:List (List UInt8)} (h:Calm d) (z:1<=k) (C:k<=1073741824) (E:Small d K B) (hK:K.length<=40) (O:cont d gy=none) (H:cont d (man k)=none)
  (hB:2100<=B) (hq:(K.length+4)*B<=d.quota):
  ∃d6,Calm d6/\cont d6=upd (upd (upd (upd (cont d) (man k) (some (M.v.whole.rec_))) gy (some (headB k))) kCur (some (headB k))) gy none/\d6.quota=d.quota/\rewrite d M (man k)=(sweep (man k) d6.list d6,{ M with name:=man k,count:=1 },0):=by
 have hr:=Ed.nx1 (Vw.pj1 hv);have hh:=jj2 k;have I:(number (man k) kMan).getD 0=(k:Int):=by rw[dy1 z C];rfl
 obtain⟨Q,U⟩:=n_ (K.length *B);have e1:(K.length+4)*B=Q+4 *B:=by rw[bz_,<-U]
 have e2:(K.length+1)*B=Q+B:=by rw[bz_,<-U,Nat.one_mul]
 have e3:(K.length+1+1)*B=Q+2 *B:=by rw[cN_,bz_,<-U]
 obtain⟨a1,a2,a3,a4⟩:=h.write (iq1 z C) H E o_ M.v.whole.rec_ o_ o_;have a5:gy≠man k:=(iw1 z C).symm;have J:cont (d.write (man k) M.v.whole.rec_).1 gy=none:=by rw[a3,upd,if_neg a5];exact O
 have a6:=a2.qk4 vk J;have a7:Small (d.write (man k) M.v.whole.rec_).1 (man k::K) B:=⟨fun s x o=>by
  rw[a3,upd]at o;split at o
  ·subst_vars;simp
  ·exact f_ _ (E.names s x o),fun s x o=>by
  rw[a3,upd]at o;split at o
  ·injection o with o;subst o;omega
  ·exact E.len s x o⟩
 obtain⟨b1,b2,b3,b4⟩:=a2.write vk J a7 (by simp;omega) (headB k) o_ (by rw[r_];omega);obtain⟨e1,e2,e3,e4⟩:=b2.ak;have a8:cont ((d.write (man k) M.v.whole.rec_).1.write gy (headB k)).1.ak.1 gy=some (headB k):=by rw[e3,b3,upd,if_pos rfl]
 obtain⟨f1,f2,f3,f4⟩:=e2.rename vk ik1 lq1.symm a8;obtain⟨g1,g2,g3,g4⟩:=f2.ak;refine⟨(((((d.write (man k) M.v.whole.rec_).1.write gy (headB k)).1.ak).1.rename gy kCur).1.ak).1,g2,?_,?_,?_⟩
 ·rw[g3,f3,e3,b3,a3]
 ·rw[g4,f4,e4,b4,a4]
 ·unfold rewrite
  rw[if_neg (by simp[a1]),tmp,if_neg (by rw[a6];simp),hd,I,if_neg (by simp[b1]),sd1,if_neg (by simp[e1]),ren,if_neg (by simp[f1]),fin,if_neg (by simp[g1])]
end Gw
theorem lw3 {d:Sd} {K:List (List UInt8)} {B:Nat} (h:Calm d) (C:Small d K B) (hK:K.length<=30) (E:∀s x,cont d s=some x->St.cx1 s=false) (hB:2100<=B) (hq:(K.length+5)*B<=d.quota):
  ∃d6,St.create d=(d6,some ⟨{ St.first with name:=Mw.man 1,count:=1 },St.jw,0,0,[],[],[],false⟩,0)/\Calm d6/\d6.quota=d.quota/\
   cont d6=upd (upd (upd (upd (upd (cont d) St.jw (some [])) (Mw.man 1) (some (St.first.v.whole.rec_))) Mw.gy (some (Mw.headB 1))) Mw.kCur (some (Mw.headB 1))) Mw.gy none:=by
 have O:St.cx1 St.jw=true:=by decide+kernel
 have Q:St.cx1 (Mw.man 1)=true:=by decide+kernel
 have U:St.cx1 Mw.gy=true:=by decide+kernel
 have z:∀s,St.cx1 s=true->cont d s=none:=fun s H=>by
  cases hc:cont d s with
  |none=>rfl
  |some x=>rw[E s x hc]at H;cases H
 have hw:=mq2 d d.list (fun s H=>by
  obtain⟨x,o⟩:=h.ez1.1 H;exact E s x o)
 obtain⟨ln,lu⟩:=h.qj C;obtain⟨a1,a2,a3,a4⟩:=h.create (s:=St.jw) (by decide+kernel) (z _ O) o_;obtain⟨b1,b2,I,b4⟩:=a2.sync (s:=St.jw) (by decide+kernel) (x:=[]) (by rw[a3,upd,if_pos rfl]);have a0:Small ((d.create St.jw).1.sync St.jw).1 (St.jw::K) B:=⟨fun s x o=>by
  rw[I,a3,upd]at o;split at o
  ·subst_vars;simp
  ·exact f_ _ (C.names s x o),fun s x o=>by
  rw[I,a3,upd]at o;split at o
  ·injection o with o;subst o;simp
  ·exact C.len s x o⟩
 have a5:Mw.gy≠St.jw:=by decide
 have a6:Mw.man 1≠St.jw:=by decide+kernel
 obtain⟨d6,c1,c2,c3,c4⟩:=Gw.wy2 (M:=St.first) (by decide+kernel) (k:=1) b2 o_ o_ a0 (by rw[r_];omega) (by rw[I,a3,upd,if_neg a5];exact z _ U) (by rw[I,a3,upd,if_neg a6];exact z _ Q) hB (by rw[b4,a4,r_];exact hq);have a7:Mw.sweep (Mw.man 1) d6.list d6=d6:=Mw.px1 _ _ _ (fun s H J=>by
  obtain⟨x,o⟩:=c1.ez1.1 H;rw[c2,I,a3]at o;unfold upd at o;split at o
  ·cases o
  ·split at o
   ·rename_i h2
    rw[h2,Mw.fv1]at J
    cases J
   ·split at o
    ·assumption
    ·split at o
     ·rename_i h2
      rw[h2,show Mn.number St.jw Mn.kMan=none from by decide+kernel]at J
      cases J
     ·rw[(bz4 (E s x o)).1]at J
      cases J)
 refine⟨d6,?_,c1,by rw[c3,b4,a4],by rw[c2,I,a3];rfl⟩;unfold St.create;rw[hw];simp only[ne_eq,not_true_eq_false,if_false,a1,b1];rw[show Mn.name Mn.kMan 1=Mw.man 1 from rfl,c4,a7];simp
end
end Go.Proofs.YtfbkjjdfboagfaaGreatDoor
