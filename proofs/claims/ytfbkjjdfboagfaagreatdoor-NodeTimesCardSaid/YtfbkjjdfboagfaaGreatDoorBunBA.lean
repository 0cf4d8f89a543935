/- Some of the texts. No conditions. -/
import Derived.Test.YtfbkjjdfboagfaaGreatDoorBunAY
import Derived.Test.YtfbkjjdfboagfaaGreatDoorBunAW
import Derived.Test.YtfbkjjdfboagfaaGreatDoorBunAT

set_option linter.unusedSimpArgs false
set_option linter.unusedVariables false
set_option maxRecDepth 100000
set_option maxHeartbeats 16000000
namespace Go.Proofs.YtfbkjjdfboagfaaGreatDoor
open Go.Proofs.Tryz Go Go.RowKit Go.Lib Go.Shelf
section
variable {w w1 w2:World} {X X1 X2:Dw} {S S1 S2:Sd} {Y Y1 Y2:Yw} {V V1 V2:Sv}
structure HAt (b hi:Nat) (w:World) (A:Option Addr) (n c:Nat) (ls:List (List It)):Prop where
 len:n=ls.length
 nc:n<=c
 cm:c<=maxLen
 low:∀a,A=some a->b<=a.block
 rows:∃vs,Row hi w A n 1 vs/\ls.length=vs.length/\∀i (h:i < ls.length),∃A k c,vs[i]?=some (.slice A k c)/\k<=c/\c<=maxLen/\Row hi w A k 5 (itc ls[i])/\∀a,A=some a->b<=a.block
theorem HNew.at_ {b n c:Nat} {w:World} {A:Option Addr} {ls:List (List It)} (h:HNew b w A n c ls):HAt b w w A n c ls:=by
 obtain⟨h1,h2,h3,h4,vs,h5,o,z⟩:=h;exact⟨h1,h2,h3,h4,vs,h5,o,fun i hi=>let ⟨A,k,c,C,E,H,I,J⟩:=z i hi;⟨A,k,c,C,E,H,I,fun a O=>(J a O).1⟩⟩
theorem jy3 {b hi n size:Nat} {w w':World} {A:Option Addr} {xs:List Value} {F:List Nat} (c:Chg F w w') (r:Row hi w A n size xs) (z:hi<=(w:Nat)) (C:∀a,A=some a->b<=a.block) (hF:∀g∈F,g < b\/hi<=g):Row hi w' A n size xs:=
 nz c r z fun j hj a o E=>by
  obtain⟨H,e,q,_⟩:=r.cell j hj;rw[o]at e;injection e with e;subst e;have:=C a o
  rcases hF _ E with h|h<;>omega
theorem HAt.chg {b hi n c:Nat} {w w':World} {A:Option Addr} {ls:List (List It)} {F:List Nat} (h:HAt b hi w A n c ls) (k:Chg F w w') (o:hi<=(w:Nat)) (hF:∀g∈F,g < b\/hi<=g):HAt b hi w' A n c ls:=by
 obtain⟨vs,h5,C,E⟩:=h.rows;exact⟨h.len,h.nc,h.cm,h.low,vs,jy3 k h5 o h.low hF,C,fun i hi=>let ⟨A,H,c,I,J,O,Q,z⟩:=E i hi;⟨A,H,c,I,J,O,jy3 k Q o z hF,z⟩⟩
theorem HAt.fw6 {b hi n c:Nat} {w:World} {A:Option Addr} {ls:List (List It)} (h:HAt b hi w A n c ls) (o:hi<=(w:Nat)):nj1 w w A n ls:=by
 obtain⟨vs,h5,J,z⟩:=h.rows;exact⟨vs,h5.up o,h.len.symm,fun i hi=>let ⟨A,k,c,C,E,H,I,_⟩:=z i hi;⟨A,k,c,C,E,H,I.up o⟩⟩
theorem HAt.get {b hi n c:Nat} {w:World} {A:Option Addr} {ls:List (List It)} (h:HAt b hi w A n c ls) {i:Nat} (o:i < n):
  ∃a z k c1,∃E:i < ls.length,A=some a/\a.block < hi/\w.cell? (a.add i)=some (.slice z k c1)/\Row hi w z k 5 (itc ls[i])/\(∀a,z=some a->b<=a.block):=by
 obtain⟨vs,h5,U,H⟩:=h.rows;obtain⟨a,v,e,q,C,I⟩:=h5.at1 o;have E:i < ls.length:=by rw[<-h.len];exact o
 obtain⟨z,k,c1,J,z2,z3,O,Q⟩:=H i E;rw[J]at C;injection C with C;exact⟨a,z,k,c1,E,e,q,by rw[I,<-C],O,Q⟩
theorem Dm.eq6 (h:Dm w X S):∀g∈X.foot,g < (w:Nat):=h.dk.lt
theorem mj4 {W:World} {s m g mm L:Nat} {ns:List Nd} {P:Sl} {B:Nat} (U:Dm W X S) (h0:NG<=B) (E:∀g∈X.foot,g < B)
  (hs:BoxO W 103 s [X.d,m,g,mm,.slice none 0 0,.slice none 0 0,.int .i64 0,.int .u32 0,.int .i32 0,.int .u32 0,.bool false])
  (hk:GK W m X.d V.M P) (hv:Vrow W X m P V.M.v.files) (O:V.M.v.files=[]) (hl:LgAt W g X.d V.nm V.sz V.ct) (hm:MmAt W mm L ns) (hi:its ns=V.mem) (hV:V.tabs=[]/\V.st=[]/\V.only=false)
  (H:B<=s/\B<=m/\B<=g) (I:s≠m/\s≠g/\m≠g) (C:∀x∈mm::skF L ns,B<=x/\x≠s/\x≠m/\x≠g):SvAt W X S ⟨s,m,g,mm,L,ns,P,⟨none,0,0⟩,⟨none,0,0⟩,[]⟩ V:=by
 obtain⟨M,nm,sz,ct,mem,tabs,st,only⟩:=V;obtain⟨rfl,rfl,rfl⟩:=hV;have Q:∀x∈(⟨s,m,g,mm,L,ns,P,⟨none,0,0⟩,⟨none,0,0⟩,[]⟩:Yw).foot,B<=x:=fun x E=>by
  rcases Yw.aj.1 E with q|q|q|q|q
  ·rw[q];exact H.1
  ·rw[q];exact H.2.1
  ·rw[q];exact H.2.2
  ·rw[q];exact(C _ p_).1
  ·exact(C _ (f_ _ q)).1
 refine⟨U,hs,hk,hv,fun j hj=>?_,hl,hm,hi,fun _ _=>⟨rfl,Row.nil_,B_ _,A_ _,fun _=>⟨rfl,rfl⟩,fun p hp=>by cases hp⟩,fun _ _=>Its.nil 0 _,⟨fun x z J=>?_,fun o=>?_,fun o=>?_,fun o=>?_⟩,fun x z=>g_ h0 (Q x z)⟩
 ·simp only at O
  rw[O]at hj;exact absurd hj (bY_ _)
 ·have:=E x J
  have:=Q x z;omega
 ·rcases h_.1 o with q|q
  ·exact I.1 q
  ·rcases h_.1 q with q|q
   ·exact I.2.1 q
   ·exact(C _ q).2.1 rfl
 ·rcases h_.1 o with q|q
  ·exact I.2.2 q
  ·exact(C _ q).2.2.1 rfl
 ·exact(C _ o).2.2.2 rfl
def St.bv2 (ls:List (List It)):List It:=ls.foldl (fun m l=>l.foldl wput m) []
theorem fz4 {ls:List (List It)} {k:Nat} (h:k < ls.length):St.bv2 (ls.take (k+1))=ls[k].foldl wput (St.bv2 (ls.take k)):=by
 unfold St.bv2;rw[<-ak_ h,aS_];rfl
theorem kj3 (ls:List (List It)):(St.bv2 ls).length<=ls.flatten.length:=by
 have key:∀(ls:List (List It)) (a:List It),(ls.foldl (fun m l=>l.foldl wput m) a).length<=a.length+ls.flatten.length:=fun ls=>by
  induction ls with
  |nil=>intro a;simp
  |cons l r o=>
   intro a;have h1:=o (l.foldl wput a);have h2:=pk1 l a;rw[aX_,bD_,e_];omega
 simpa [St.bv2] using key ls []
def St.old (M:Gs) (n:Nat) (ls:List (List It)):Sv:=⟨M,Mn.name Mn.kLog M.v.log,n,ls.length,St.bv2 ls,[],joins [] ls.flatten,false⟩
theorem aq5 (h:Dm w X S) (hd:S.dead=false) (f7:St.dv3 S=false) (M:Gs) (j7:Gw.look S=(some (M,false),0)) (hf:M.v.files=[]) (j8:0<=M.v.log/\M.v.log<=1073741824) (e2:M.name.length<=1000)
  (t:List UInt8) (ls:List (List It)) (j9:S.read (Mn.name Mn.kLog M.v.log)=(t,0)) (j':Lg.replay t=(ls,t.length,0)) (k0:∀l∈ls,l≠[]/\l.all It.ok=true) (k2:ls.length<=100000) (a1:ls.flatten.length<=100000) (k3:S.load<=1000000):
  Calls prog 13 #[X.d] w (ak2 X w (St.sweep M S.list S) (St.old M t.length ls)):=by
 have a6:=ay3 X S w h;rw[f7]at a6;have c6:=h.dk.box.cell 6;simp only[Dw.cells,gE0,gE1]at c6;rw[hd]at c6;have a7:=fun W (hb:Below w w W)=>nj4 (h.below hb);rw[j7]at a7;have b8:=fun W (hb:Below w w W)=>my4 (h.below hb) (Mn.name Mn.kLog M.v.log) (ax4 M.v.log) t ls j9 j';have b9:∀W,Below w w W->Calls prog 40 #[.string { data:=#[108,111,103] },M.v.log] W fun e w'=>e=.returned (.string (str (Mn.name Mn.kLog M.v.log)))/\Below W.heap.size W w':=fun W hb=>name_any (str Mn.kLog) (by decide) M.v.log o_ W (h.env.below hb);have k4:=H_ a6;have k5:=H_ a7;have k6:=H_ b8;have k7:=H_ b9;have HH:=H_ h;have HF:=H_ hf;have b5:=H_ (d_ k0 (d_ k2 a1));have i1:=H_ (d_ j8 (d_ e2 k3));clear a6 a7 b8 b9 h hf j7 j9 j' k0 k2 a1 f7 j8 e2 k3 hd;go_enter func13,ntmps13;go_wp2_with (first|(go_at_call 33;go_in)|fail)
 refine m_ k4 ?_
 rintro e w1 ⟨rfl,e3⟩;clear k4 c6;have f8:=H_ (k5.out w1 e3);clear k5;go_wp2_with fail
 refine m_ f8 ?_
 rintro e w2 ⟨k8,m,P,rfl,a8,c9,z,k9⟩;clear f8;have a2:=az e3 k8;have k':=lv2 w2;have l1:∀W,Below w2 w2 W->Calls prog 38 #[m] W fun e w'=>∃A c,e=.returned (.agg #[M.v.log,.slice A 0 c,[M.v.floor],[M.v.cert],[M.v.at_],[M.v.lease]])/\Below W.heap.size W w':=fun W hb=>by
  have p4:P.n=0:=by
   have:=z.row.len;rw[HF.out]at this;simp[bz]at this;omega
  refine(qz1 X.d (a8.below hb) (z.below hb).row o_).mono ?_;rintro e w' ⟨A,c,rfl,_,d0⟩;rw[p4];exact⟨A,c,rfl,d0⟩
 have l2:=H_ k';have l3:=H_ l1;have i2:=H_ (d_ a2 (d_ (d_ e3.size c9) (d_ a8 z)));clear k' l1 a2 c9 a8 z k8 e3 k9;go_wp2_with fail
 refine m_ l2 ?_
 rintro e Q ⟨mm,L,ns,rfl,d1,E,d0,I⟩;clear l2;obtain⟨U,hU⟩:=n_ (Q.alloc (.cells #[X.d,m,.pointer none,mm,.slice none 0 0,.slice none 0 0,.int .i64 0,.int .u32 0,.int .i32 0,.int .u32 0,.bool false] 103));have i3:=BoxO.new Q #[X.d,m,.pointer none,mm,.slice none 0 0,.slice none 0 0,.int .i64 0,.int .u32 0,.int .i32 0,.int .u32 0,.bool false] 103;have e4:=b_ Q (.cells #[X.d,m,.pointer none,mm,.slice none 0 0,.slice none 0 0,.int .i64 0,.int .u32 0,.int .i32 0,.int .u32 0,.bool false] 103);rw[<-hU]at i3 e4;have p5:(U:Nat)=(Q:Nat)+1:=by rw[hU];simp
 have a0:=az d0 e4;have HV:=H_ (l3.out U a0);have HU:=H_ (d_ i3 (d_ a0 (d_ (d1.below e4) (d_ E (d_ I (d_ d0.size p5))))));have f9:∀g∈mm::skF L ns,g < (Q:Nat):=d1.lt;have g4:=H_ f9;clear i3 e4 a0 d1 E I d0 l3 f9;have l4:=H_ hU;go_wp2_with fail;rw[<-l4.out]
 refine m_ HV ?_
 rintro e w4 ⟨A4,c4,rfl,i4⟩;clear HV hU;have l5:=BoxO.new w4 #[M.v.log,.slice A4 0 c4,[M.v.floor],[M.v.cert],[M.v.at_],[M.v.lease]] 106;have g8:=b_ w4 (.cells #[M.v.log,.slice A4 0 c4,[M.v.floor],[M.v.cert],[M.v.at_],[M.v.lease]] 106);have d2:=az i4 g8;have i5:=az (az i2.1 HU.2.1) d2;have l6:=H_ (k7.out _ i5);have d3:=H_ (d_ l5 (d_ d2 (d_ i5 i4.size)));clear l5 g8 d2 i5 i4 k7;go_wp2_with fail
 refine m_ l6 ?_
 rintro e w6 ⟨rfl,e6⟩;have i6:=d3.1.below e6;have l7:=az d3.2.1 e6;have i7:=az d3.2.2.1 e6;have l8:(w4:Nat) < (w6:Nat):=by have:=i6.lt;exact this
 have l9:=H_ (k6.out w6 i7);have e7:=H_ (d_ i6 (d_ l7 (d_ i7 (d_ l8 d3.2.2.2))));clear i6 l7 i7 e6 d3 l6 k6 l8;go_wp2_with fail
 refine m_ l9 ?_
 rintro e w7 ⟨g,A7,n7,c7,rfl,g',l',b6,i9⟩;have a9:=e7.1.below i9;have v0:=a9.c0;have v1:=a9.c1;have v2:=a9.c2;have v3:=a9.c3;have v4:=a9.c4;have v5:=a9.c5;have m0:=H_ (gw4 Q (.int .i64 M.v.log) (.int .u64 M.v.floor) (.int .u64 M.v.cert) (.int .u64 M.v.at_) (.int .u64 M.v.lease) A4 c4 w7);have a':=H_ (d_ g' (d_ l' (d_ b6 i9)));clear g' l' b6 i9 a9 l9;go_wp2_with fail
 refine m_ m0 ?_
 rintro e w8 ⟨rfl,d4⟩;clear v0 v1 v2 v3 v4 v5 m0;have e9:=az (az e7.2.1 a'.2.2.2) d4;have b1:=HU.1.below e9;have s2:=b1.c2;have f2:=b1.free 2;have a4:=b1.store 2 (.pointer (some g));have O:=(Chg.refl [(Q:Nat)] w8).setCell (p:=⟨Q,2,none⟩) g (.inl s_);simp only[T_,Q_]at a4;go_upto_region 16 with (fail)
 obtain⟨W9,m2⟩:=n_ (w8.setCell (Q,2) g);rw[<-m2]at a4 O ⊢;clear m2 s2 f2;have z9:=O.size;have z8:=d4.size;have z7:=a'.2.2.2.size;have zg:g < (w7:Nat):=a'.1.lt;have p7:=a'.2.1;obtain⟨-,a0,h7,E,I,z3,zU⟩:=HU.out;obtain⟨a2,⟨z1,zm⟩,a8,z⟩:=i2.out;obtain⟨-,-,-,s',z4⟩:=e7.out;have t0:m < (w2:Nat):=a8.lt;have b2:=az a0 e9;have b3:=az a2 b2;have d5:=HH.eq6;have e':=g4.out;have f0:∀x,(Q:Nat)≠x->x∉[(Q:Nat)]:=fun x C hm=>C (c_.1 hm).symm;have J:SvAt W9 X S ⟨(Q:Nat),m,g,mm,L,ns,P,⟨none,0,0⟩,⟨none,0,0⟩,[]⟩ ⟨M,Mn.name Mn.kLog M.v.log,t.length,ls.length,St.bv2 [],[],[],false⟩:=by
  refine mj4 (B:=(w:Nat)) ((HH.below b3).chg O (fun x C=>?_)) HH.env.base d5 a4 (BoxO.chg (a8.below b2) O (f0 _ o_)) ⟨?_,z.nc,z.cm,z.nb,z.away⟩ HF.out (BoxO.chg (a'.1.below d4) O (f0 _ o_)) ((h7.below e9).chg O (fun x C=>f0 _ (by have:=e' x C;omega))) E ⟨rfl,rfl,rfl⟩ ⟨o_,o_,o_⟩ ⟨o_,o_,o_⟩ (fun x C=>?_)
  ·rw[c_.1 C]
   refine⟨fun hm=>?_,?_⟩
   ·have:=d5 _ hm
    omega
   ·have:=HH.env.base
    omega
  ·have hr:=(z.below b2).row
   refine(nz O hr l_ (fun j hj=>?_)).up O.size;rw[HF.out]at hj;exact absurd hj (bY_ _)
  ·have h5:=e' x C
   have h6:=I x C;refine⟨o_,o_,o_,o_⟩
 have o:=((a'.2.2.1.at_).chg (Chg.of_below d4 []) l_ (fun x C=>by cases C)).chg O z8 (fun x C=>by rw[c_.1 C];omega);have h8:Below w w W9:=b3.trans (O.below b3.size (fun x C=>by rw[c_.1 C];omega));have d6:∀x∈mm::skF L ns,(w:Nat)<=x/\(x < (w6:Nat)\/(w7:Nat)<=x):=fun x C=>by
  have h5:=e' x C;have h6:=I x C;omega
 have j0:=H_ (d_ J (d_ o (d_ h8 (d_ d6 (show (w7:Nat)<=(W9:Nat) by omega)))));have s4:=a4.c4;have h9:=H_ (show (w:Nat)<=(Q:Nat)/\(Q:Nat) < (w6:Nat)/\(w6:Nat)<=g by omega);clear J o h8 d6 a0 h7 E I a2 a8 z b2 b3 d5 e' f0 O a4 e9 b1 d4 HU i2 e7 a' g4 l4 zg p7;have m3:=H_ (lj5 W9);have m4:=H_ (xj4 W9);go_wp2_with fail
 refine m_ m3 ?_
 rintro e t3 ⟨rfl,rfl⟩;go_wp2_with fail
 refine m_ m4 ?_
 rintro e t4 ⟨rfl,rfl⟩;clear m3 m4 s4;have b6:=j0.2.1.len;have p8:n7<=100000:=by rw[b6];exact b5.2.1
 have p9:=H_ b6;clear b6;go_wp2
 go_loopw [75] (fun i wr=>∃(k:Nat) (d7:List Nd),k<=n7/\i=.int .i64 k/\Hid (SvAt wr X S ⟨(Q:Nat),m,g,mm,L,d7,P,⟨none,0,0⟩,⟨none,0,0⟩,[]⟩ ⟨M,Mn.name Mn.kLog M.v.log,t.length,ls.length,St.bv2 (ls.take k),[],[],false⟩/\HAt w6 w7 wr A7 n7 c7 ls/\Below w w wr/\(∀x∈mm::skF L d7,(w:Nat)<=x/\(x < (w6:Nat)\/(w7:Nat)<=x))/\(w7:Nat)<=(wr:Nat))) (fun i _=>n7 - (intOf i).toNat)
 case atStart=>exact⟨0,ns,A_ _,rfl,j0⟩
 case round=>
  obtain⟨k,d7,hk,rfl,HI⟩:=hrel;clear j0;obtain⟨J,o,b0,H,hz⟩:=HI.out
  by_cases p':k < n7
  ·obtain⟨a,A1,k1,c1,hl,rfl,ha,hc,hr,m6⟩:=o.get p'
   have q2:=hr.yw;have m7:=yy1 (ls:=ls) hl;have m8:=yk2 (ls:=ls) (k+1);have e2:=kj3 (ls.take k);have m9:=fz4 hl;rw[m7,e_]at m8;have a1:=b5.2.2;have E:=J.its;simp only at E;have m':=dw2 J.mem A1 k1 c1 ls[k] o_ (by rw[E];omega) (hr.up hz) (fun b hb=>by
    obtain⟨b',e,q,_⟩:=hr.cell 0 (by
     rw[iw];have h0:=bu_.2 (b5.1 _ (w_ hl)).1;omega)
    have h1:=m6 b hb;rw[hb]at e;injection e with e;subst e;exact⟨fun e=>by have e:b.block=mm:=e;have:=H _ p_;omega,fun hm=>by have:=H _ (f_ _ hm);omega⟩) (b5.1 _ (w_ hl)).2
   have s3:=J.box.cell 3;simp only[Yw.cells,gE0,gE1]at s3;have n0:=H_ m';have HK:=H_ (d_ m9 E);clear m' hr m6 J o b0 H m9 E e2 m8 m7 a1 q2;go_wp2_with fail
   refine m_ n0 ?_
   rintro e wq ⟨f3,rfl,c9,n1,d8,j3⟩;have a5:SvAt wq X S ⟨(Q:Nat),m,g,mm,L,f3,P,⟨none,0,0⟩,⟨none,0,0⟩,[]⟩ ⟨M,Mn.name Mn.kLog M.v.log,t.length,ls.length,St.bv2 (ls.take (k+1)),[],[],false⟩/\HAt w6 w7 wq (some a) n7 c7 ls/\Below w w wq/\(∀x∈mm::skF L f3,(w:Nat)<=x/\(x < (w6:Nat)\/(w7:Nat)<=x))/\(w7:Nat)<=(wq:Nat):=by
    obtain⟨J,o,b0,H,_⟩:=HI.out;have hs:=d8.size;obtain⟨q1,_,_⟩:=J.mput c9 d8 j3;refine⟨?_,o.chg d8 hz (fun x C=>(H x C).2),b0.trans (d8.below b0.size (fun x C=>(H x C).1)),fun x C=>?_,o_⟩
    ·have e:its f3=St.bv2 (ls.take (k+1)):=by rw[n1,HK.1,HK.2]
     rw[<-e];exact q1
    ·rcases h_.1 C with rfl|C
     ·exact H _ p_
     ·rcases j3 x C with q|q
      ·exact H _ (f_ _ q)
      ·have:=b0.size
       omega
   have HZ:=H_ a5;clear a5 c9 n1 d8 j3 n0 HK HI s3 hc;go_wp2;go_roundw
   case rel=>exact⟨k+1,f3,o_,by go_num,HZ⟩
   case measure=>simp[intOf];omega
  ·obtain rfl:k=n7:=o_
   rw[p9.out,cb_]at J;have n2:=H_ (yk5 none 0 0 [] wr o_ Row.nil_);have HS:=H_ (d_ J (d_ o (d_ b0 (d_ H hz))));clear J o b0 H HI;go_wp2_with fail
   refine m_ n2 ?_
   rintro e wa ⟨Aa,ka,rfl,q5,d9,f4⟩;obtain rfl:ka=0:=q5;have n4:=(HS.2.1.chg (Chg.of_below f4 []) hz (fun x C=>by cases C)).fw6 (g_ hz f4.size);have j4:=sv1 A7 k c7 ls wa o_ (by have:=b5.2.2;omega) n4;obtain⟨fl,a1⟩:=n_ ls.flatten;rw[<-a1]at j4;have u0:fl.length<=100000:=by rw[a1];exact b5.2.2
   have q6:=H_ a1;have n5:=H_ j4;clear j4 a1;have HA:=H_ (d_ d9 f4);clear d9 f4 n4 n2;go_wp2_with fail
   refine m_ n5 ?_
   rintro e wb ⟨Ab,cb,rfl,n6,q8,q9,f5⟩;have d9:=HA.1;have n8:=uy1 Aa 0 0 (ofs []) Ab fl.length cb fl wb o_ l_ z_ Stt.nil ((d9.row.below f5).up f5.size) (Row.own n6);have n9:=H_ n8;have HB:=H_ (az HA.2 f5);clear n8 d9 n6 q8 q9 f5 HA n5;go_wp2_with fail
   refine m_ n9 ?_
   rintro e wc ⟨Ac,kc,rfl,n',d',j5⟩;have o0:=HS.1.below (az HB.out j5);have o1:uw (XY X ⟨(Q:Nat),m,g,mm,L,d7,P,⟨none,0,0⟩,⟨none,0,0⟩,[]⟩) wc fun W=>Its 0 W Ac kc kc (joins (ofs []) fl):=fun W cW=>⟨(nz cW d'.row l_ (fun j _ a ha hm=>by
    have h1:=d'.low a ha;have h2:=HS.1.lt _ hm;have h3:=HB.size;omega)).up cW.size,d'.nc,d'.cm,fun _ _=>A_ _⟩
   have h':=yx2 o0 Ac kc kc (joins (ofs []) fl) o1;have HC:=H_ (d_ n' (az HB.out j5));have i0:=H_ h';clear h' o1 o0 d' j5 n' n9 HB;go_wp2_with fail
   refine m_ i0 ?_
   rintro e wd ⟨rfl,f6,o2⟩;have q':joins (ofs []) fl=joins [] ls.flatten:=by rw[<-q6.out];rfl
   rw[q']at f6;have o3:=dk4 f6 HF.out i1.1 i1.2.2 i1.2.1;have a6:∀x∈XY X ⟨(Q:Nat),m,g,mm,L,d7,P,⟨none,0,0⟩,⟨none,0,0⟩,[]⟩,x∈X.foot\/(w:Nat)<=x:=fun x C=>by
    rcases q_.1 C with q|q
    ·exact .inl q
    ·right
     have hl:=HS.2.2.2.1
     rcases Yw.aj.1 q with q|q|q|q|q
     ·have q:x=(Q:Nat):=q
      have:=h9.1;omega
     ·have q:x=m:=q
      omega
     ·have q:x=g:=q
      have:=h9.out;omega
     ·have q:x=mm:=q
      rw[q];exact(hl _ p_).1
     ·exact(hl _ (f_ _ q)).1
   have o4:Chg X.foot w wd:=((Chg.of_below HS.2.2.1 X.foot).trans (Chg.of_below HC.2 []) (fun x C=>by cases C)).trans o2 a6;have HD:=H_ (d_ o4 a6);have o6:=H_ o3;have s7:=f6.box.cell 0;clear o3 o4 f6 o2 i0 HC a6 s7;go_wp2_with fail
   refine m_ o6 ?_
   rintro e we ⟨rfl,X',e1,h1,c1,f1⟩;have a5:ak2 X w (St.sweep M S.list S) (St.old M t.length ls) (.returned (.tuple #[(Q:Nat),.int .i64 0])) we:=by
    refine⟨X',_,rfl,e1,h1,HD.1.trans c1 HD.2,fun x C=>?_⟩
    rcases f1 x C with q|q
    ·exact HD.2 x q
    ·exact .inr (g_ HD.1.size q)
   have HZ:=H_ a5;clear a5 h1 c1 f1 HD o6;go_wp2;refine bodyPost_ret (v:=.tuple #[(Q:Nat),.int .i64 0]) (by simp[results,go_sem]) rfl HZ
end
end Go.Proofs.YtfbkjjdfboagfaaGreatDoor
