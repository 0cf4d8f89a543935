/- Some of the texts. No conditions. -/
import Derived.Test.YtkdbagdiplpcfaaGreatDoorBunAO
import Derived.Test.YtkdbagdiplpcfaaGreatDoorBunAQ

set_option linter.unusedSimpArgs false
set_option linter.unusedVariables false
set_option maxRecDepth 100000
set_option maxHeartbeats 16000000
namespace Go.Proofs.YtkdbagdiplpcfaaGreatDoor
open Go.Proofs.Tryz Go Go.RowKit Go.Lib Go.Shelf
theorem Tb.mx3 (l:List (List It)) (r:List It):Tb.blocks (l++[r])=Tb.blocks l++Fr.put 2 (It.bytes r):=by simp[Tb.blocks]
theorem Tb.rj2:∀(p:Nat) (l:List (List It)) (r:List It),Tb.index p (l++[r])=(Tb.index p l++Pn.put (p+(Tb.blocks l).length))++It.bytes (r.take 1)
 |p,[],r=>by simp[Tb.index,Tb.blocks]
 |p,x::l,r=>by
  have h:=Tb.rj2 (p+(Fr.put 2 (It.bytes x)).length) l r;show Pn.put p++(It.bytes (x.take 1)++Tb.index (p+(Fr.put 2 (It.bytes x)).length) (l++[r]))=_
  rw[h];have e:p+(Tb.blocks (x::l)).length=p+(Fr.put 2 (It.bytes x)).length+(Tb.blocks l).length:=by
   simp only[Tb.blocks,S_,d_];omega
  rw[e];show _=((Pn.put p++(It.bytes (x.take 1)++Tb.index (p+(Fr.put 2 (It.bytes x)).length) l))++_)++_
  simp only[K_]
theorem Tb.qk1:∀(l:List (List It)),(∀r∈l,r.length<=20)->(Tb.blocks l).length<=662 *l.length
 |[],_=>by simp[Tb.blocks]
 |r::l,h=>by
  have h1:=Tb.qk1 l (fun x C=>h x (e_ _ C));have h2:=It.bq1 r;have h3:=h r i_;have e:(Tb.blocks (r::l)).length=(Fr.put 2 (It.bytes r)).length+(Tb.blocks l).length:=by simp[Tb.blocks]
  rw[e,Fr.vk,q_];omega
theorem Tb.ev3 (l:List It):(Tb.bits l).length=Tb.mz2 l.length:=by
 unfold Tb.bits;have h:∀(l:List It) (b:List UInt8),(l.foldl (fun b a=>Tb.addKey b a.key) b).length=b.length:=fun l b=>xv3 l b;rw[h,b6_]
theorem Tb.tv2 (l:List It) (h:l.length<=2000):(Tb.filt l).length<=3000:=by
 have h1:=Pn.jq 7;have h2:=Pn.jq (Tb.bits l).length;have h3:=Tb.ev3 l;unfold Tb.filt;simp only[d_];unfold Tb.mz2 at h3;omega
def jj4 (w:World) (l:List It) (e:Ending) (w':World):Prop:=
 (Tb.good l=true/\∃A' M c',e=.returned (.tuple #[.slice A' M c',.int .i64 0])/\w'.ownsRow w.heap.size 5 1 (.slice A' M c') M (bts (Tb.make l))/\M<=c'/\c'<=maxLen/\Below w.heap.size w w')\/
 (Tb.good l=false/\∃er:Nat,er≠0/\e=.returned (.tuple #[.slice none 0 0,.int .i64 (er:Int)])/\Below w.heap.size w w')
theorem qv2 (L:Option Addr) (m d:Nat) (l:List It) (w:World) (hm:m<=1000000) (p3:m<=d) (hq:Row w.heap.size w L m 5 (itc l)) (hf:∀x∈l,x.fit):
  Calls prog 139 #[.slice L m d] w (jj4 w l):=by
 have d1:=hq.qj;have h6:=rq2 L m d l w hm hq;have d2:=fun(W:World) (hb:Below w.heap.size w W)=>cx2 207 (fun _ _=>rfl) #[] (fun x=>!x.ok) L m d l W hm ((hq.below hb).up hb.size) (fun x w1 _=>az4 x w1);simp only[wx2]at d2;obtain⟨rb,h7⟩:=n_ (decide (qx l));obtain⟨ab,b0⟩:=n_ (l.all It.ok);have d3:Tb.good l=(decide (m<=2000) &&rb&&ab):=by unfold Tb.good;rw[h7,b0,d1]
 have h8:∀{b},Tb.good l=b->(decide (m<=2000) &&rb&&ab)=b:=fun e=>by rw[<-d3];exact e
 have e0:∀w' (er:Nat),(decide (m<=2000) &&rb&&ab)=false->er≠0->Below w.heap.size w w'->jj4 w l (.returned (.tuple #[.slice none 0 0,.int .i64 (er:Int)])) w':=fun w' er h1 h2 h3=>.inr ⟨by rw[d3];exact h1,er,h2,rfl,h3⟩;have j2:=fun(Q:m<=2000) (W:World) (hb:Below w.heap.size w W)=>zw4 L m d l W Q p3 ((hq.below hb).up hb.size);have b1:=fun(Q:m<=2000) (hk:∀x∈l,x.ok=true) (W:World) (hb:Below w.heap.size w W)=>jz3 L m d l W Q ((hq.below hb).up hb.size) hk;rw[<-h7]at h6;rw[<-b0]at d2;have e4:ab=true->∀x∈l,x.ok=true:=fun h=>by rw[b0]at h;exact fun x hx=>ab_.1 h x hx
 have h':=H_ d3;have U:=H_ e0;have j3:=H_ h6;have j4:=H_ d2;have j5:=H_ j2;have p4:=H_ b1;have p5:=H_ e4;clear d3 h8 e0 h6 d2 j2 b1 e4 h7 b0
 by_cases Q:m<=2000
 ·have hd:decide (m<=2000)=true:=decide_eq_true Q
  have p6:((2000:Int) < (m:Int))=False:=eq_false o_;simp only[hd,cm_]at h' U;go_enter func139,ntmps139;go_wp2_with fail;refine j3.out.mono ?_;rintro e w1 ⟨rfl,d4⟩
  cases rb with
  |false=>
   go_wp2;go_ret2;exact U.out _ 1 rfl o_ d4
  |true=>
   go_wp2_with fail;refine(j4.out _ d4).mono ?_;rintro e w2 ⟨rfl,j6⟩;have d5:=az d4 j6
   cases ab with
   |false=>
    go_wp2;go_ret2;exact U.out _ 1 rfl o_ d5
   |true=>
    go_wp2_with fail;refine(j5.out Q _ d5).mono ?_;rintro e w3 ⟨P,K,cp,rfl,u1,u2,O,j7⟩;have i0:Tb.good l=true:=h'.out;have j8:=az d5 j7;obtain⟨R,hR⟩:=n_ (Tb.rows l);have d6:Tb.cut 20 m l=R:=by rw[hR];unfold Tb.rows;rw[d1]
    rw[d6]at O;have i1:=O.len;have p7:K<=100:=by
     have h1:=Tb.sz1 20 o_ m l;rw[d6,i1,d1]at h1;omega
    have e5:∀r∈R,Tb.may r=true/\r.length<=20/\r≠[]/\∀y∈r,y.ok=true/\y.fit:=fun r hr=>by
     have h1:=Tb.wq3 i0 hf r (by rw[<-hR];exact hr);obtain⟨h2,h3,_⟩:=Tb.ky1 20 o_ m l r (by rw[d6];exact hr);refine⟨h1.1,h3,h2,fun y hy=>⟨?_,h1.2.2 y hy⟩⟩;have h4:=h1.1;simp only[Tb.may,G_,ab_]at h4;exact h4.2 y hy
    have HH:=H_ (c_ O (c_ j8 (c_ e5 (c_ i0 hR))));clear O j8 e5 i0 hR d6 d5 d4 j6 j7 j5 j4 j3 U h';go_wp2_with fail
    go_loopw [4,5,24] (fun s4 s5 i wr=>∃(k E c4 n5 c5:Nat) (A4 A5:Option Addr),k<=K/\s4=.slice A4 E c4/\s5=.slice A5 n5 c5/\i=.int .i64 (k:Int)/\E<=66200/\n5<=5200/\
      Hid (E=(Tb.blocks (R.take k)).length/\Row wr.heap.size wr A4 E 1 (bts (Tb.blocks (R.take k)))/\E<=c4/\c4<=maxLen/\Row wr.heap.size wr A5 n5 1 (bts (Tb.index 0 (R.take k)))/\n5<=c5/\c5<=maxLen/\Below w3.heap.size w3 wr))
     (fun _ _ i _=>K - (intOf i).toNat)
    case atStart=>exact⟨0,0,0,0,0,none,none,o_,rfl,rfl,rfl,o_,o_,H_ ⟨by simp[Tb.blocks],Row.nil_,y_ _,w_ _,Row.nil_,y_ _,w_ _,Below.refl _ _⟩⟩
    case round=>
     obtain⟨k,E,c4,n5,c5,A4,A5,u5,rfl,rfl,rfl,u6,u7,i2⟩:=hrel;have i3:=H_ i2.out.1;have I:=H_ i2.out.2;clear i2
     by_cases p8:k < K
     ·have p9:(k:Int) < (K:Int):=o_
      have u8:IntKind.i64.wrap (k:Int)=(k:Int):=D_ _ o_;obtain⟨a,A,n,c,hl,rfl,b0,u9,u',v1,hrow⟩:=(HH.out.1.below I.out.2.2.2.2.2.2).at_ p8;obtain⟨k0,t4,k1,e7⟩:=HH.out.2.2.1 _ (u_ hl);have k2:R.take (k+1)=R.take k++[R[k]]:=r_ hl;generalize R[k]=r at *;have k3:=hrow.qj;have v2:0 < n:=by
       rcases ao_ n with h|h
       ·exact absurd (ag_.1 o_) k1
       ·exact h
      have v3:(1:Int)<=(c:Int):=o_
      have p':IntKind.u64.wrap (E:Int)=(E:Int):=by simp[IntKind.wrap_u64];omega
      have i4:Row wr.heap.size wr A n 5 (itc r):=hrow.up I.out.2.2.2.2.2.2.size;have k4:Row wr.heap.size wr A 1 5 (itc (r.take 1)):=by rw[dz1];exact i4.pre o_
      have hp:=put_any A5 n5 c5 (Tb.index 0 (R.take k)) E o_ wr o_ I.out.2.2.2.1;obtain⟨n6,b2⟩:=n_ (n5+(Pn.put E).length);rw[<-b2]at hp;have k5:n6<=5300:=by have:=Pn.jq E;omega
      clear b2;have HP:=H_ hp;have k7:=H_ k4;have q2:=H_ i4;have HT:=H_ (c_ k2 (c_ k0 e7));have q3:=H_ k3;have q4:=H_ i1;clear hp k4 i4 k2 k0 e7 hrow k1 k3 i1;go_wp2_with fail;refine HP.out.mono ?_;rintro e w4 ⟨A6,c6,rfl,b3,q6,q7,H⟩;have k9:=zk1 A6 n6 c6 (Tb.index 0 (R.take k)++Pn.put E) A 1 c (r.take 1) w4 o_ o_ (Row.own b3) ((k7.out.below H).up H.size) (fun x hx=>HT.out.2.2 x (aP_ hx));have k':=H_ k9;have l1:=H_ H;clear k9 b3 H HP k7;go_wp2_with fail;refine k'.out.mono ?_;rintro e w5 ⟨A7,n7,c7,rfl,b5,i5,i6,a5⟩;have J:=az l1.out a5;have l2:=dx5 A4 E c4 (Tb.blocks (R.take k)) A n c r w5 o_ I.out.2.1 I.out.2.2.1 (by have:=q3.out;omega) ((I.out.1.below J).up J.size) ((q2.out.below J).up J.size) HT.out.2.1 (fun x hx=>(HT.out.2.2 x hx).2);have l3:=H_ l2;have C:=H_ (c_ (Row.own b5) (c_ i5 (c_ i6 J)));clear l2 b5 J a5 k' l1;go_wp2_with fail;refine l3.out.mono ?_;rintro e w6 ⟨A8,n8,c8,rfl,b6,l4,l5,Z⟩;have e':=az C.out.2.2.2 Z;have d7:=Row.own b6;have d8:=(C.out.1.below Z).up Z.size;have f5:Tb.blocks (R.take (k+1))=Tb.blocks (R.take k)++Fr.put 2 (It.bytes r):=by rw[HT.out.1,Tb.mx3]
      have b7:Tb.index 0 (R.take (k+1))=(Tb.index 0 (R.take k)++Pn.put E)++It.bytes (r.take 1):=by rw[HT.out.1,Tb.rj2,an_,i3.out]
      rw[<-f5]at d7;rw[<-b7]at d8;have l6:=d7.zk;have r0:=d8.zk;have v4:(R.take (k+1)).length<=100:=by rw[v_];have:=q4.out;omega
      have l7:=Tb.qk1 (R.take (k+1)) (fun x hx=>(HH.out.2.2.1 x (aP_ hx)).2.1);have l8:=Tb.my1 0 (R.take (k+1));have r3:n8<=66200:=o_
      have r4:n7<=5200:=o_
      have HF:=H_ (c_ l6.symm (c_ d7 (c_ l4 (c_ l5 (c_ d8 (c_ C.out.2.1 (c_ C.out.2.2.1 (az I.out.2.2.2.2.2.2 e'))))))));clear e' d7 d8 f5 b7 l6 r0 l7 l8 Z b6 C l3;go_wp2;go_roundw
      case rel=>exact⟨k+1,n8,c8,n7,c7,A8,A7,o_,rfl,rfl,by go_num,r3,r4,HF⟩
      case measure=>simp[intOf];omega
     ·have p9:((k:Int) < (K:Int))=False:=eq_false o_
      have f6:R.take k=R:=g_ o_;rw[f6]at I i3;clear f6;have v5:IntKind.u64.wrap (m:Int)=(m:Int):=by simp[IntKind.wrap_u64];omega
      have p':IntKind.u64.wrap (E:Int)=(E:Int):=by simp[IntKind.wrap_u64];omega
      have hp:=put_any none 0 0 [] E o_ wr o_ Row.nil_;simp only[an_,C_]at hp;have l9:=((hq.below HH.out.2.1).up HH.out.2.1.size).below I.out.2.2.2.2.2.2;have l':=l9.up I.out.2.2.2.2.2.2.size;obtain⟨n6,b2⟩:=n_ ((Pn.put E).length);rw[<-b2]at hp;have k5:n6<=10:=by have:=Pn.jq E;omega
      have HP:=H_ hp;have HQ:=H_ l';clear hp b2 l9 l' hq;go_wp2_with fail;refine HP.out.mono ?_;rintro e w4 ⟨A6,c6,rfl,b3,q6,q7,H⟩;have m0:=lk1 A4 E c4 (Tb.blocks R) 3 A5 n5 c5 (Tb.index 0 R) w4 o_ I.out.2.1 I.out.2.2.1 ((I.out.1.below H).up H.size) o_ o_ o_ I.out.2.2.2.2.1 I.out.2.2.2.2.2.1 ((I.out.2.2.2.1.below H).up H.size);have m1:=H_ m0;have i7:=H_ (c_ (Row.own b3) H);clear m0 b3 H HP;go_wp2_with fail;refine m1.out.mono ?_;rintro e w5 ⟨A7,n7,c7,rfl,b5,i5,i6,a5⟩;have f7:=az i7.out.2 a5;have d9:=Row.own b5;have v6:n7<=71412:=by
       have h1:=d9.zk;have h2:=I.out.1.zk;have h3:=I.out.2.2.2.1.zk;rw[d_,Fr.vk]at h1;omega
      have f8:=d9.zk;have v7:IntKind.u64.wrap (n7:Int)=(n7:Int):=by simp[IntKind.wrap_u64];omega
      have i8:=put_any A6 n6 c6 (Pn.put E) n7 o_ w5 o_ ((i7.out.1.below a5).up a5.size);obtain⟨n8,m2⟩:=n_ (n6+(Pn.put n7).length);rw[<-m2]at i8;have t6:n8<=20:=by have:=Pn.jq n7;omega
      have m3:=H_ i8;have C:=H_ (c_ d9 (c_ i5 (c_ i6 (c_ f7 f8))));clear i8 m2 d9 f7 f8 b5 a5 i7 m1;go_wp2_with fail;refine m3.out.mono ?_;rintro e w6 ⟨A8,c8,rfl,b6,l4,l5,Z⟩;have b8:=I.out.2.2.2.2.2.2.trans ((az C.out.2.2.2.1 Z).mono I.out.2.2.2.2.2.2.size);have b1:=p4.out Q (p5.out trivial) w6 (az HH.out.2.1 b8);have m4:=H_ b1;have b9:=H_ (c_ (Row.own b6) (c_ Z b8));clear b1 b6 Z b8 m3;go_wp2_with fail;refine m4.out.mono ?_;rintro e w7 ⟨f,g,rfl,m5,r6,r7,m6⟩;have m7:(Tb.bits l).length<=3000:=by rw[Tb.ev3];unfold Tb.mz2;omega
      have m8:=nz3 f g (Tb.bits l) w7 m5 m7;have m9:=H_ m8;have m':=H_ m6;clear m8 m5 r6 r7 m6 m4 m7;go_wp2_with fail;refine m9.out.mono ?_;rintro e w8 ⟨r8,n0,r9,rfl,f9,n1,n2,f'⟩;have b':=az m'.out f';have a6:=az b9.out.2.1 b';have a7:=Row.own f9;have t7:n0<=3000:=by
       have h1:=a7.zk;have h2:=Tb.tv2 l o_;rw[<-h1];exact h2
      have g0:=lk1 A7 n7 c7 (Tb.blocks R++Fr.put 3 (Tb.index 0 R)) 4 r8 n0 r9 (blb (Tb.bits l)) w8 o_ C.out.2.1 C.out.2.2.1 ((C.out.1.below a6).up a6.size) o_ o_ o_ n1 n2 a7;have g1:=H_ g0;have n3:=H_ (c_ a6 (c_ b' a7.zk));clear g0 f9 a7 b' a6 f' m9 m';go_wp2_with fail;refine g1.out.mono ?_;rintro e w9 ⟨r',n9,s0,rfl,g2,n',o0,g4⟩;have c9:=Row.own g2;have t8:n9<=74424:=by
       have h1:=c9.zk;rw[d_,Fr.vk,C.out.2.2.2.2,n3.out.2.2]at h1;omega
      have a8:=az n3.out.2.1 g4;have i9:=put_any A8 n8 c8 (Pn.put E++Pn.put n7) m o_ w9 o_ ((b9.out.1.below a8).up a8.size);obtain⟨o1,g5⟩:=n_ (n8+(Pn.put m).length);rw[<-g5]at i9;have s1:o1<=30:=by have:=Pn.jq m;omega
      have o2:=H_ i9;have a0:=H_ (c_ c9 (c_ n' (c_ o0 a8)));clear i9 g5 c9 a8 g2 g4 g1;go_wp2_with fail;refine o2.out.mono ?_;rintro e o3 ⟨s2,s3,rfl,g6,o4,o5,a9⟩;have g7:=lk1 r' n9 s0 ((Tb.blocks R++Fr.put 3 (Tb.index 0 R))++Fr.put 4 (blb (Tb.bits l))) 5 s2 o1 s3 ((Pn.put E++Pn.put n7)++Pn.put m) o3 o_ a0.out.2.1 a0.out.2.2.1 ((a0.out.1.below a9).up a9.size) o_ o_ o_ o4 o5 (Row.own g6);have g8:=H_ g7;have g9:=H_ a9;clear g7 g6 a9 o2;go_wp2_with fail;refine g8.out.mono ?_;rintro e x0 ⟨s6,s7,s8,rfl,c',o6,o7,g'⟩;have o8:=az (b9.out.2.2.trans ((az (az a0.out.2.2.2 g9.out) g').mono b9.out.2.2.size)) b0_;have hz:=az HH.out.2.1 o8;have o9:((Tb.blocks R++Fr.put 3 (Tb.index 0 R))++Fr.put 4 (blb (Tb.bits l)))++Fr.put 5 ((Pn.put E++Pn.put n7)++Pn.put m)=Tb.make l:=by
       have e1:=i3.out;have e2:=C.out.2.2.2.2;unfold Tb.make;have e3:Tb.rows l=R:=HH.out.2.2.2.2.symm;show _=(Tb.blocks (Tb.rows l)++Fr.put 3 (Tb.index 0 (Tb.rows l)))++(Fr.put 4 (Tb.filt l)++Fr.put 5 (Pn.put (Tb.blocks (Tb.rows l)).length++(Pn.put (Tb.blocks (Tb.rows l)++Fr.put 3 (Tb.index 0 (Tb.rows l))).length++Pn.put l.length)))
       rw[e3,<-e1,e2,d1];simp only[K_];rfl
      rw[o9]at c';have o':=own_base c' (show w.heap.size<=o3.heap.size by have a1:=HH.out.2.1.size;have a2:=b9.out.2.2.size;have a3:=a0.out.2.2.2.size;have a4:=g9.out.size;omega);have HF:=H_ (c_ o' (c_ o6 (c_ o7 hz)));clear o' c' hz o8 g' o9 g8;go_wp2;go_ret2;exact .inl ⟨HH.out.2.2.2.1,s6,s7,s8,rfl,HF.out⟩
 ·have hd:decide (m<=2000)=false:=decide_eq_false Q
  have p6:((2000:Int) < (m:Int))=True:=eq_true o_;go_enter func139,ntmps139;go_wp2;go_ret2;exact U.out _ 2 (by rw[hd];rfl) o_ b0_
theorem zx3 (A:Option Addr) (n c:Nat) (a:List UInt8) (B:Option Addr) (m d:Nat) (b:List UInt8) (w:World) (C:Row w.heap.size w A n 1 (bts a)) (E:Row w.heap.size w B m 1 (bts b)):
  Calls prog 183 #[.slice A n c,.slice B m d] w fun e w'=>e=.returned (.bool (a==b))/\w'=w:=by
 have c1:=zy1 C c;have c2:=zy1 E d;go_enter func183,ntmps183;go_wp2;go_ret;exact⟨by simp,rfl⟩
theorem jy4:(prog.info? 26).map (fun i=>(i.zero,i.size,i.bytes))=some (some (.slice none 0 0),1,24):=by kernel_rfl
def TbAt (w:World) (f:Nat) (rs:List (List It)):Prop:=∃P n c cnt,cnt=rs.flatten.length/\BoxO w 221 f [.slice P n c,.int .i64 ((cnt:Nat):Int),.int .u32 0,.int .i32 0,.int .u32 0,.pointer none]/\n<=c/\c<=maxLen/\oj1 w.heap.size w P n rs/\∀a,P=some a->a.off=0
def mw3 (b h:Nat) (w w':World):Prop:=h<=w'.heap.size/\∀g,b<=g->g < h->w'.heap[g]?=w.heap[g]?
theorem mw3.bz6 {F:List Nat} {b:Nat} {w w':World} (c:Chg F w w') (hF:∀g∈F,g < b):mw3 b w.heap.size w w':=⟨c.size,fun g h1 h2=>c.block g h2 (fun C=>by have:=hF g C;omega)⟩
theorem Row.dv6 {B n size b h:Nat} {w w':World} {A:Option Addr} {xs:List Value} (C:Row B w A n size xs) (hs:mw3 b h w w') (H:B<=h) (E:∀a,A=some a->b<=a.block):Row B w' A n size xs:=by
 refine⟨C.len,fun j hj=>?_⟩;obtain⟨a,e,h1,h2⟩:=C.cell j hj;refine⟨a,e,h1,?_⟩;rw[aH_ (w:=w) (by rw[add_block];exact hs.2 a.block (E a e) o_)];exact h2
def fy2 (b:Nat) (no:Option Nat) (w:World) (ls:List (List It)) (vs:List Value):Prop:=ls.length=vs.length/\∀i (h:i < ls.length),∃A k c,vs[i]?=some (.slice A k c)/\k<=c/\c<=maxLen/\Row w.heap.size w A k 5 (itc ls[i])/\∀a,A=some a->b<=a.block/\a.block < w.heap.size/\some a.block≠no
theorem fy2.step {b:Nat} {no no':Option Nat} {w w':World} {ls:List (List It)} {vs:List Value} (E:fy2 b no w ls vs) (hs:w.heap.size<=w'.heap.size) (H:∀g,b<=g->g < w.heap.size->some g≠no->w'.heap[g]?=w.heap[g]?) (I:∀g,g < w.heap.size->some g≠no->some g≠no'):fy2 b no' w' ls vs:=by
 refine⟨E.1,fun i hi=>?_⟩;obtain⟨A,k,c,h1,h2,h3,h4,h5⟩:=E.2 i hi;refine⟨A,k,c,h1,h2,h3,⟨h4.len,fun j hj=>?_⟩,fun a C=>⟨(h5 a C).1,by have:=(h5 a C).2.1;omega,I _ (h5 a C).2.1 (h5 a C).2.2⟩⟩;obtain⟨a,e,q1,J⟩:=h4.cell j hj;refine⟨a,e,o_,?_⟩;rw[aH_ (w:=w) (by rw[add_block];exact H _ (h5 a e).1 (h5 a e).2.1 (h5 a e).2.2)];exact J
theorem fy2.row {b:Nat} {no:Option Nat} {w:World} {ls:List (List It)} {vs:List Value} (C:fy2 b no w ls vs) {P:Option Addr} {n:Nat} (E:Row w.heap.size w P n 1 vs):oj1 w.heap.size w P n ls:=
 ⟨vs,E,by have:=E.len;have:=C.1;omega,fun i hi=>let ⟨A,k,c,h1,h2,h3,h4,_⟩:=C.2 i hi;⟨A,k,c,h1,h2,h3,h4⟩⟩
theorem fy2.snoc {b:Nat} {no:Option Nat} {w:World} {ls:List (List It)} {vs:List Value} (C:fy2 b no w ls vs) {l:List It} {A:Option Addr} {k c:Nat} (h1:k<=c) (h2:c<=maxLen) (h3:Row w.heap.size w A k 5 (itc l)) (h4:∀a,A=some a->b<=a.block/\a.block < w.heap.size/\some a.block≠no):fy2 b no w (ls++[l]) (vs++[.slice A k c]):=by
 refine⟨by rw[d_,d_,C.1];rfl,fun i hi=>?_⟩;rw[d_]at hi
 rcases ah_ i ls.length with q1|q1
 ·obtain⟨A,k,c,E,H,I,J,O⟩:=C.2 i q1
  refine⟨A,k,c,by rw[O_ (by have:=C.1;omega)];exact E,H,I,?_,O⟩;rw[aR_ q1];exact J
 ·have Q:i=ls.length:=by simp at hi;omega
  subst Q;refine⟨A,k,c,by rw[C.1];simp,h1,h2,?_,h4⟩;rw[bH_ l_];simp only[bQ_,a5_];exact h3
theorem TbAt.of {b f cnt:Nat} {w W:World} {v:Value} {vs:List Value} {rs:List (List It)} {no:Option Nat} (J:cnt=rs.flatten.length) (O:b<=f) (H:BoxO w 221 f [v,.int .i64 (cnt:Int),.int .u32 0,.int .i32 0,.int .u32 0,.pointer none]) (I:w.ownsRow b 26 1 v rs.length vs) (Q:fy2 b none w rs vs) (hs:mw3 b w.heap.size w W):TbAt W f rs:=by
 have C:BoxO W 221 f _:=(hs.2 f O H.lt).trans H;obtain⟨P,c,rfl,h1,h2,h3⟩:=gz I;refine⟨P,_,c,cnt,J,C,h1,h2,?_⟩;have U:=((Row.own I).dv6 hs l_ (fun a E=>(h3 a E).1)).up hs.1;exact⟨(Q.step (no':=none) hs.1 (fun g h4 h5 _=>hs.2 g h4 h5) (fun g _ h=>h)).row U,fun a E=>(h3 a E).2.2.2⟩
theorem cw5 (f cnt:Nat) (rs:List (List It)) (w:World) (h:TbAt w f rs) (C:cnt=rs.flatten.length) (Z:rs.length<=1000000) (hb:cnt<=1000000):
  Calls prog 93 #[.pointer (some ⟨f,0,none⟩)] w fun e w'=>∃A' H,e=.returned (.slice A' cnt H)/\
   w'.ownsRow w.heap.size 49 5 (.slice A' cnt H) cnt (itc rs.flatten)/\cnt<=H/\H<=maxLen/\Below w.heap.size w w':=by
 obtain⟨P,n,c,_,_,I,_,_,J,_⟩:=h;have Q:=I.c0;have E:=rv1 P n c rs w (by have:=J.len;omega) o_ J;rw[<-C]at E;have O:=H_ E;clear I J E C;go_enter func93,ntmps93;go_wp2_with fail;refine O.out.mono ?_;rintro e w1 ⟨A',H,rfl,h1⟩;have U:=H_ h1;clear h1 O;go_wp2;go_ret;exact⟨A',H,rfl,U.out⟩
def wq5 (w:World) (b:List UInt8) (e:Ending) (w':World):Prop:=Below w.heap.size w w'/\
 ((Tb.open_ b=none/\∃er:Nat,er≠0/\e=.returned (.tuple #[.pointer none,.int .i64 (er:Int)]))\/
  (∃rs,Tb.open_ b=some rs/\∃f,e=.returned (.tuple #[.pointer (some ⟨f,0,none⟩),.int .i64 0])/\∀W,mw3 w.heap.size w'.heap.size w' W->TbAt W f rs))
theorem ly3 {b:List UInt8} {p:Nat} (h:(ez1 b p).2.2=0):p+12<=(ez1 b p).2.1/\(ez1 b p).2.1<=b.length/\(ez1 b p).1.length<=100/\Tb.may (ez1 b p).1=true:=by
 unfold ez1 at h ⊢;split
 ·rename_i h1
  obtain⟨h2,_,_,h3,h4⟩:=h1;have h5:=Fr.dx2 h2;exact⟨h5.1,h5.2,h3,h4⟩
 ·rename_i h1
  rw[if_neg h1]at h;simp at h
theorem qw2 (f:Nat) (b:List UInt8) (p:Nat):Tb.parse (f+1) b p=if (ez1 b p).2.2=0 then (ez1 b p).1::Tb.parse f b (ez1 b p).2.1 else []:=by
 rw[Tb.parse];unfold ez1;split<;>simp
theorem bx4 (A:Option Addr) (N c:Nat) (b:List UInt8) (w:World) (hN:N<=100000) (i8:N<=c) (i9:c<=maxLen) (hr:Row w.heap.size w A N 1 (bts b)):
  Calls prog 121 #[.slice A N c] w (wq5 w b):=by
 obtain⟨i0,i',j0,j1,j2⟩:=info_parts jy4;have e5:=hr.zk;have HR:=H_ hr;have e6:=H_ e5;clear hr e5;have e7:=b_ w (.cells #[.slice none 0 0,.int .i64 0,.int .u32 0,.int .i32 0,.int .u32 0,.pointer none] 221);have e9:=BoxO.new w #[.slice none 0 0,.int .i64 0,.int .u32 0,.int .i32 0,.int .u32 0,.pointer none] 221;have j3:=H_ e7;have j4:=H_ e9;clear e7 e9;go_enter func121,ntmps121;go_wp2_with fail
 go_loopw [5] (fun at_ wr=>∃(p fu cnt:Nat) (rs:List (List It)) (v:Value) (vs:List Value),at_=.int .i64 (p:Int)/\p<=N/\rs.length *12<=p/\cnt<=rs.length *100/\Hid (cnt=rs.flatten.length/\N - p < fu/\rs++Tb.parse fu b p=Tb.parse (N+1) b 0/\(∀r∈rs,∀y∈r,y.fit)/\
   BoxO wr 221 w.heap.size [v,.int .i64 (cnt:Int),.int .u32 0,.int .i32 0,.int .u32 0,.pointer none]/\wr.ownsRow (w.heap.size+1) 26 1 v rs.length vs/\fy2 (w.heap.size+1) v.ownBlock wr rs vs/\Below w.heap.size w wr))
  (fun i _=>N - (intOf i).toNat)
 case atStart=>exact⟨0,N+1,0,[],_,[],rfl,o_,by simp,o_,H_ ⟨by simp,o_,by simp,fun r h=>(by simp at h),j4.out,E_ _ _ _ _,⟨rfl,fun i h=>absurd h s_⟩,j3.out⟩⟩
 case round=>
  obtain⟨p,fu,cnt,rs,v,vs,rfl,j5,m1,m2,E⟩:=hrel;have U:=tj4 A N c b p wr o_ i8 i9 ((HR.out.below E.out.2.2.2.2.2.2.2).up E.out.2.2.2.2.2.2.2.size) j5;obtain⟨T,hT⟩:=n_ (ez1 b p);obtain⟨l,nx,er⟩:=T;rw[<-hT]at U;have e':=H_ U;have HT:=H_ hT;clear U hT;go_wp2_with fail;refine e'.out.mono ?_;rintro e w1 ⟨A1,J,c1,rfl,b9,b',c9⟩;simp only at b9 b';have I:=H_ (c_ b9 (c_ b' c9));have b0:=E.out.2.2.2.2.1.below c9;have d0:=b0.c0;have d1:=b0.c1;have HX:=H_ b0;have l2:w.heap.size < wr.heap.size:=E.out.2.2.2.2.1.lt;clear b9 b' c9 b0 e'
  by_cases he:er=0
  ·subst he
   obtain⟨f5,b1,a5,Z⟩:=ly3 (b:=b) (p:=p) (by rw[<-HT.out]);rw[<-HT.out]at f5 b1 a5 Z;rw[e6.out]at b1;simp only at f5 b1 a5 Z;have f6:0 < l.length:=bh_.2 (by intro e;rw[e]at Z;simp[Tb.may]at Z);have m5:0 < J:=by rw[I.out.1];exact f6
   have j6:J<=100:=by rw[I.out.1];exact a5
   obtain⟨a1,rfl,j7⟩:∃a,A1=some a/\a.block < w1.heap.size:=by
    obtain⟨a,e1,e2⟩:=I.out.2.1.row.some_ (by rw[jk];omega);exact⟨a,e1,e2⟩
   have m6:=I.out.2.1.low a1 rfl;have d2:∀g,v.ownBlock=some g->g < wr.heap.size:=by
    intro g hg
    rcases E.out.2.2.2.2.2.1.2 with ⟨rfl,_⟩|⟨g',cap,cur,rfl,hb,f8,_⟩
    ·simp[Value.ownBlock]at hg
    ·obtain rfl:g'=g:=by simpa [Value.ownBlock] using hg
     exact(A_.1 f8).1
   have C:fy2 (w.heap.size+1) v.ownBlock w1 (rs++[l]) (vs++[.slice (some a1) J c1]):=by
    have h1:=E.out.2.2.2.2.2.2.1.step (no':=v.ownBlock) I.out.2.2.size (fun g _ h5 _=>I.out.2.2.block g h5) (fun g _ h=>h);refine h1.snoc I.out.2.1.nc I.out.2.1.cm I.out.2.1.row (fun a ha=>?_);injection ha with ha;subst ha;refine⟨o_,j7,fun e=>?_⟩;have:=d2 _ e.symm;omega
   have j8:=H_ C;have m8:=H_ d2;have m9:=H_ (c_ a5 Z);have H:=(own_below E.out.2.2.2.2.2.1 I.out.2.2).alloc (.cells #[.slice (some a1) J c1] 26);have j9:=H_ H;have U:=(Below.refl (w.heap.size+1) w1).alloc (by have:=I.out.2.2.size;omega) (.cells #[.slice (some a1) J c1] 26);have f9:=H_ U;have m':IntKind.i64.wrap ((cnt:Int)+(J:Int))=((cnt+J:Nat):Int):=by rw[D_ _ o_];omega
   have l7:=I.out.2.2.size;clear C d2 a5 Z H U f6;go_wp2_with (at_builtin;refine iy ?_);refine bz (cy1 rfl (.tmp 26) (.tmp 28) _ rfl (w.heap.size+1) 26 i0 _ 1 24 underlying98 i' j0 j1 j2 rfl o_ w1 f9.out (by rw[Q_];omega) v rs.length vs rfl j9.out _ (some ⟨w1.heap.size,0,none⟩) 1 1 o_ [.slice (some a1) J c1] rfl (Row.new w1 #[.slice (some a1) J c1] 26 rfl) (by simp[Value.oneCell']) (rs.length+1) _ rfl rfl (by unfold maxLen;omega) o_ ?_);intro A4 c4 w2 a7 d3 f' _ _ b5;have a0:BoxO w2 221 w.heap.size [v,.int .i64 (cnt:Int),.int .u32 0,.int .i32 0,.int .u32 0,.pointer none]:=(d3.block _ o_).trans HX.out;have e0:=a0.c0;have e1:=a0.c1;have e2:=a0.free 0;have e3:=a0.free 1;have HG:=H_ (c_ a0 (c_ a7 (c_ d3 (c_ f' b5))));clear a0 a7 d3 f' b5;go_wp2;go_roundw
   case rel=>
    obtain⟨q1,q2,q3,q4,q5⟩:=HG.out;have g0:some w.heap.size≠v.ownBlock:=by
     intro e
     rcases E.out.2.2.2.2.2.1.2 with ⟨rfl,_⟩|⟨g',cap,cur,rfl,hb,f8,_⟩
     ·simp[Value.ownBlock]at e
     ·simp[Value.ownBlock]at e
      omega
    have g4:some w.heap.size≠(Value.slice A4 (rs.length+1) c4).ownBlock:=by
     intro e
     rcases q5 with h|h
     ·rw[h]at e;exact g0 e
     ·rw[h,Q_]at e
      injection e with e;omega
    have j':=(q1.store 0 (.slice A4 (rs.length+1) c4)).store 1 (.int .i64 ((cnt+J:Nat):Int));have hT:=HT.out;have b2:w2.heap.size=((w2.setCell ⟨w.heap.size,0,none⟩ (.slice A4 (rs.length+1) c4)).setCell ⟨w.heap.size,1,none⟩ (.int .i64 ((cnt+J:Nat):Int))).heap.size:=by simp
    have g5:∀g,g≠w.heap.size->((w2.setCell ⟨w.heap.size,0,none⟩ (.slice A4 (rs.length+1) c4)).setCell ⟨w.heap.size,1,none⟩ (.int .i64 ((cnt+J:Nat):Int))).heap[g]?=w2.heap[g]?:=by
     intro g hg;rw[Below.heap_setCell _ _ _ g (fun e=>hg e),Below.heap_setCell _ _ _ g (fun e=>hg e)]
    have d4:=q2.kept (grownBy_setCell' w2 w.heap.size (.slice A4 (rs.length+1) c4)) (.inr g4.symm);have k0:(w2.setCell ⟨w.heap.size,0,none⟩ (.slice A4 (rs.length+1) c4)).grownBy ((w2.setCell ⟨w.heap.size,0,none⟩ (.slice A4 (rs.length+1) c4)).setCell ⟨w.heap.size,1,none⟩ (.int .i64 ((cnt+J:Nat):Int))) (some w.heap.size):=
     ⟨rfl,rfl,rfl,by simp,fun k _ hk=>Below.heap_setCell _ _ _ k (fun e=>hk (by rw[e]))⟩
    have d5:=d4.kept k0 (.inr g4.symm);have k2:=j8.out.step (no':=(Value.slice A4 (rs.length+1) c4).ownBlock) (w':=(w2.setCell ⟨w.heap.size,0,none⟩ (.slice A4 (rs.length+1) c4)).setCell ⟨w.heap.size,1,none⟩ (.int .i64 ((cnt+J:Nat):Int)))
     (by rw[<-b2];have:=q4.size;rw[Q_]at this;omega)
     (fun g g1 g2 g3=>by rw[g5 g o_,q4.block g (by rw[Q_];omega) g3,Below.heap_alloc _ _ g g2])
     (fun g g1 g2=>by
      rcases q5 with h|h
      ·rw[h];exact g2
      ·rw[h,Q_]
       intro e;injection e with e;omega)
    have k4:Below w.heap.size w ((w2.setCell ⟨w.heap.size,0,none⟩ (.slice A4 (rs.length+1) c4)).setCell ⟨w.heap.size,1,none⟩ (.int .i64 ((cnt+J:Nat):Int))):=by
     have h1:=(E.out.2.2.2.2.2.2.2.trans (I.out.2.2.mono E.out.2.2.2.2.2.2.2.size)).trans (q3.mono (cB_ _));exact(h1.setCell (p:=⟨w.heap.size,0,none⟩) l_ _).setCell (p:=⟨w.heap.size,1,none⟩) l_ _
    obtain⟨g7,rfl⟩:∃f,fu=f+1:=⟨fu - 1,by have:=E.out.2.1;omega⟩;have g8:=E.out.2.2.1;rw[qw2,<-hT,if_pos rfl]at g8;refine⟨nx,g7,cnt+J,rs++[l],.slice A4 (rs.length+1) c4,vs++[.slice (some a1) J c1],rfl,b1,by rw[d_];simp only[ad_];omega,by rw[d_];simp only[ad_];omega,H_ ⟨?_,by have:=E.out.2.1;omega,by rw[K_];exact g8,?_,?_,?_,?_,?_⟩⟩
    ·rw[bv_,d_,<-E.out.1,I.out.1];simp
    ·intro r hr
     rcases k_.1 hr with h1|h1
     ·exact E.out.2.2.2.1 r h1
     ·rw[a_.1 h1]
      intro y hy;have h2:l=(ez1 b p).1:=by rw[<-hT]
      rw[h2]at hy;unfold ez1 at hy;split at hy
      ·exact It.fj5 _ y hy
      ·simp at hy
    ·simpa using j'
    ·simpa using d5
    ·simpa using k2
    ·simpa using k4
   case measure=>simp[intOf];omega
  ·have n4:((er:Int)==0)=false:=by simp;omega
   have b6:Tb.parse (N+1) b 0=rs:=by
    have h1:=E.out.2.2.1;obtain⟨g7,rfl⟩:∃f,fu=f+1:=⟨fu - 1,by have:=E.out.2.1;omega⟩;rw[qw2,<-HT.out,if_neg he,ak_]at h1;exact h1.symm
   have h0:Tb.open_ b=if (Tb.good rs.flatten=true/\Tb.make rs.flatten=b) then some rs else none:=by
    unfold Tb.open_;rw[e6.out,b6]
   have H:=own_below E.out.2.2.2.2.2.1 I.out.2.2;have C:=E.out.2.2.2.2.2.2.1.step (no':=none) I.out.2.2.size (fun g _ h5 _=>I.out.2.2.block g h5) (fun g _ h=>nofun);have d6:∀W,mw3 w.heap.size w1.heap.size w1 W->TbAt W w.heap.size rs:=fun W hW=>TbAt.of (b:=w.heap.size) (no:=none) E.out.1 l_ HX.out (own_base H (cB_ _)) ⟨C.1,fun i hi=>let ⟨A,k,c,h1,h2,h3,h4,h5⟩:=C.2 i hi;⟨A,k,c,h1,h2,h3,h4,fun a ha=>⟨Nat.le_of_succ_le (h5 a ha).1,(h5 a ha).2⟩⟩⟩ hW;have h6:=d6 w1 ⟨y_ _,fun _ _ _=>rfl⟩;have h7:=cw5 w.heap.size cnt rs w1 h6 E.out.1 o_ o_;have h8:=H_ h7;have k5:=H_ d6;have d7:=H_ h0;have b7:=E.out.2.2.2.2.2.2.2.trans (I.out.2.2.mono E.out.2.2.2.2.2.2.2.size);have O:=H_ b7;clear b6 h0 H C d6 h6 h7 b7;go_wp2_with fail;refine h8.out.mono ?_;rintro e w2 ⟨A2,c2,rfl,h9,k6,n5,h'⟩;have i1:=qv2 A2 cnt c2 rs.flatten w2 o_ k6 (Row.own h9) (fun x hx=>by
    obtain⟨r,h1,h2⟩:=List.mem_flatten.1 hx;exact E.out.2.2.2.1 r h1 x h2)
   have i2:=H_ i1;have i3:=H_ h';clear i1 h9 h' h8;go_wp2_with fail;refine i2.out.mono ?_;rintro e w3 (⟨a2,A3,M3,c3,rfl,i4,n',o0,b3⟩|⟨a2,k7,l',rfl,b3⟩)
   ·have Q:=az i3.out b3
    have heq:=zx3 A3 M3 c3 (Tb.make rs.flatten) A N c b w3 (Row.own i4) ((HR.out.below (O.out.trans (Q.mono O.out.size))).up (O.out.trans (Q.mono O.out.size)).size);obtain⟨q,hq⟩:=n_ ((Tb.make rs.flatten==b));rw[<-hq]at heq;have i5:=H_ heq;have HQ:=H_ (c_ hq (c_ a2 Q));clear heq hq a2 Q b3 i4 i2;go_wp2_with fail;refine i5.out.mono ?_;rintro e w4 ⟨rfl,rfl⟩;have a8:=O.out.trans (HQ.out.2.2.mono O.out.size);have a9:=H_ a8;clear a8 i5
    cases q with
    |true=>
     go_wp2;go_ret2;have h1:=HQ.out.1;have h2:Tb.open_ b=some rs:=by rw[d7.out,if_pos ⟨HQ.out.2.1,by simpa using h1.symm⟩]
     refine⟨a9.out,.inr ⟨rs,h2,w.heap.size,rfl,fun W hW=>k5.out W ⟨j_ HQ.out.2.2.size hW.1,fun g g1 g2=>?_⟩⟩⟩;rw[hW.2 g g1 (by have:=HQ.out.2.2.size;omega),HQ.out.2.2.block g g2]
    |false=>
     go_wp2;go_ret2;have h1:=HQ.out.1;have h2:Tb.open_ b=none:=by rw[d7.out,if_neg (fun h=>by rw[h.2]at h1;simp at h1)]
     exact⟨a9.out,.inl ⟨h2,9,o_,rfl⟩⟩
   ·have o1:((k7:Int)==0)=false:=by simp;omega
    have a8:=O.out.trans ((az i3.out b3).mono O.out.size);have h2:Tb.open_ b=none:=by rw[d7.out,if_neg (fun h=>by rw[h.1]at a2;cases a2)]
    have a9:=H_ (c_ a8 h2);clear a8 h2 a2;go_wp2;go_ret2;exact⟨a9.out.1,.inl ⟨a9.out.2,9,o_,rfl⟩⟩
section
end
end Go.Proofs.YtkdbagdiplpcfaaGreatDoor
