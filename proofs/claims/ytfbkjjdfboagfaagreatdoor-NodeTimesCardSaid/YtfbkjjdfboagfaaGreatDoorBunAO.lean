/- Some of the texts. No conditions. -/
import Derived.Test.YtfbkjjdfboagfaaGreatDoorBunAM
import Derived.Test.YtfbkjjdfboagfaaGreatDoorBunAL
import Derived.Test.YtfbkjjdfboagfaaGreatDoorBunAN

set_option linter.unusedSimpArgs false
set_option linter.unusedVariables false
set_option maxRecDepth 100000
set_option maxHeartbeats 16000000
namespace Go.Proofs.YtfbkjjdfboagfaaGreatDoor
open Go.Proofs.Tryz Go Go.RowKit Go.Lib Go.Shelf
theorem Tb.ny3 (l:List (List It)) (r:List It):Tb.blocks (l++[r])=Tb.blocks l++Fr.put 2 (It.bytes r):=by simp[Tb.blocks]
theorem Tb.rq2:∀(p:Nat) (l:List (List It)) (r:List It),Tb.index p (l++[r])=(Tb.index p l++Pn.put (p+(Tb.blocks l).length))++It.bytes (r.take 1)
 |p,[],r=>by simp[Tb.index,Tb.blocks]
 |p,x::l,r=>by
  have h:=Tb.rq2 (p+(Fr.put 2 (It.bytes x)).length) l r;show Pn.put p++(It.bytes (x.take 1)++Tb.index (p+(Fr.put 2 (It.bytes x)).length) (l++[r]))=_
  rw[h];have e:p+(Tb.blocks (x::l)).length=p+(Fr.put 2 (It.bytes x)).length+(Tb.blocks l).length:=by
   simp only[Tb.blocks,P_,e_];omega
  rw[e];show _=((Pn.put p++(It.bytes (x.take 1)++Tb.index (p+(Fr.put 2 (It.bytes x)).length) l))++_)++_
  simp only[J_]
theorem Tb.xj1:∀(l:List (List It)),(∀r∈l,r.length<=20)->(Tb.blocks l).length<=662 *l.length
 |[],_=>by simp[Tb.blocks]
 |r::l,h=>by
  have h1:=Tb.xj1 l (fun x o=>h x (f_ _ o));have h2:=It.aq1 r;have h3:=h r p_;have e:(Tb.blocks (r::l)).length=(Fr.put 2 (It.bytes r)).length+(Tb.blocks l).length:=by simp[Tb.blocks]
  rw[e,Fr.oq,r_];omega
theorem Tb.iz3 (l:List It):(Tb.bits l).length=Tb.nz2 l.length:=by
 unfold Tb.bits;have h:∀(l:List It) (b:List UInt8),(l.foldl (fun b a=>Tb.addKey b a.key) b).length=b.length:=fun l b=>zk3 l b;rw[h,b7_]
theorem Tb.uv3 (l:List It) (h:l.length<=2000):(Tb.filt l).length<=3000:=by
 have h1:=Pn.jq 7;have h2:=Pn.jq (Tb.bits l).length;have h3:=Tb.iz3 l;unfold Tb.filt;simp only[e_];unfold Tb.nz2 at h3;omega
def qv4 (w:World) (l:List It) (e:Ending) (w':World):Prop:=
 (Tb.good l=true/\∃A' M c',e=.returned (.tuple #[.slice A' M c',.int .i64 0])/\w'.ownsRow w 5 1 (.slice A' M c') M (bts (Tb.make l))/\M<=c'/\c'<=maxLen/\Below w w w')\/
 (Tb.good l=false/\∃er:Nat,er≠0/\e=.returned (.tuple #[.slice none 0 0,(er:Int)])/\Below w w w')
theorem sj2 (L:Option Addr) (m d:Nat) (l:List It) (w:World) (hm:m<=1000000) (p6:m<=d) (hq:Row w w L m 5 (itc l)) (hf:∀x∈l,x.fit):
  Calls prog 159 #[.slice L m d] w (qv4 w l):=by
 have d2:=hq.yw;have h':=oq2 L m d l w hm hq;have d3:=fun(W:World) (hb:Below w w W)=>vw1 214 (fun _ _=>rfl) #[] (fun x=>!x.ok) L m d l W hm ((hq.below hb).up hb.size) (fun x w1 _=>kx4 x w1);simp only[wj2]at d3;obtain⟨rb,i0⟩:=n_ (decide (yj l));obtain⟨ab,a'⟩:=n_ (l.all It.ok);have d4:Tb.good l=(decide (m<=2000) &&rb&&ab):=by unfold Tb.good;rw[i0,a',d2]
 have i1:∀{b},Tb.good l=b->(decide (m<=2000) &&rb&&ab)=b:=fun e=>by rw[<-d4];exact e
 have e4:∀w' (er:Nat),(decide (m<=2000) &&rb&&ab)=false->er≠0->Below w w w'->qv4 w l (.returned (.tuple #[.slice none 0 0,(er:Int)])) w':=fun w' er h1 h2 h3=>.inr ⟨by rw[d4];exact h1,er,h2,rfl,h3⟩;have j7:=fun(J:m<=2000) (W:World) (hb:Below w w W)=>dk5 L m d l W J p6 ((hq.below hb).up hb.size);have b0:=fun(J:m<=2000) (hk:∀x∈l,x.ok=true) (W:World) (hb:Below w w W)=>nv3 L m d l W J ((hq.below hb).up hb.size) hk;rw[<-i0]at h';rw[<-a']at d3;have e5:ab=true->∀x∈l,x.ok=true:=fun h=>by rw[a']at h;exact fun x hx=>Y_.1 h x hx
 have i3:=H_ d4;have O:=H_ e4;have j8:=H_ h';have j9:=H_ d3;have j':=H_ j7;have p7:=H_ b0;have p8:=H_ e5;clear d4 i1 e4 h' d3 j7 b0 e5 i0 a'
 by_cases J:m<=2000
 ·have hd:decide (m<=2000)=true:=decide_eq_true J
  have p9:((2000:Int) < (m:Int))=False:=eq_false o_;simp only[hd,cf_]at i3 O;go_enter func159,ntmps159;go_wp2_with fail;refine j8.mono ?_;rintro e w1 ⟨rfl,d5⟩
  cases rb with
  |false=>
   go_wp2;go_ret2;exact O.out _ 1 rfl o_ d5
  |true=>
   go_wp2_with fail;refine(j9.out _ d5).mono ?_;rintro e w2 ⟨rfl,k0⟩;have d6:=az d5 k0
   cases ab with
   |false=>
    go_wp2;go_ret2;exact O.out _ 1 rfl o_ d6
   |true=>
    go_wp2_with fail;refine(j'.out J _ d6).mono ?_;rintro e w3 ⟨P,K,cp,rfl,u1,u2,I,k1⟩;have i4:Tb.good l=true:=i3.out;have k2:=az d6 k1;obtain⟨R,hR⟩:=n_ (Tb.rows l);have d7:Tb.cut 20 m l=R:=by rw[hR];unfold Tb.rows;rw[d2]
    rw[d7]at I;have i5:=I.len;have p':K<=100:=by
     have h1:=Tb.eq2 20 o_ m l;rw[d7,i5,d2]at h1;omega
    have e6:∀r∈R,Tb.may r=true/\r.length<=20/\r≠[]/\∀y∈r,y.ok=true/\y.fit:=fun r hr=>by
     have h1:=Tb.vz3 i4 hf r (by rw[<-hR];exact hr);obtain⟨h2,h3,_⟩:=Tb.vk2 20 o_ m l r (by rw[d7];exact hr);refine⟨h1.1,h3,h2,fun y hy=>⟨?_,h1.2.2 y hy⟩⟩;have h4:=h1.1;simp only[Tb.may,N_,Y_]at h4;exact h4.2 y hy
    have HH:=H_ (d_ I (d_ k2 (d_ e6 (d_ i4 hR))));clear I k2 e6 i4 hR d7 d6 d5 k0 k1 j' j9 j8 O i3;go_wp2_with fail
    go_loopw [4,5,24] (fun s4 s5 i wr=>∃(k z c4 n5 c5:Nat) (A4 A5:Option Addr),k<=K/\s4=.slice A4 z c4/\s5=.slice A5 n5 c5/\i=.int .i64 k/\z<=66200/\n5<=5200/\
      Hid (z=(Tb.blocks (R.take k)).length/\Row wr wr A4 z 1 (bts (Tb.blocks (R.take k)))/\z<=c4/\c4<=maxLen/\Row wr wr A5 n5 1 (bts (Tb.index 0 (R.take k)))/\n5<=c5/\c5<=maxLen/\Below w3 w3 wr))
     (fun _ _ i _=>K - (intOf i).toNat)
    case atStart=>exact⟨0,0,0,0,0,none,none,o_,rfl,rfl,rfl,o_,o_,H_ ⟨by simp[Tb.blocks],Row.nil_,B_ _,A_ _,Row.nil_,B_ _,A_ _,Below.refl _ _⟩⟩
    case round=>
     obtain⟨k,z,c4,n5,c5,A4,A5,u6,rfl,rfl,rfl,u7,u',i6⟩:=hrel;have i7:=H_ i6.1;have E:=H_ i6.2;clear i6
     by_cases q2:k < K
     ·have q3:(k:Int) < (K:Int):=o_
      have v1:IntKind.i64.wrap (k:Int)=(k:Int):=M_ _ o_;obtain⟨a,A,n,c,hl,rfl,a',v2,v3,v4,b1⟩:=(HH.1.below E.2.2.2.2.2.2).at_ q2;obtain⟨k5,t4,k6,e9⟩:=HH.2.2.1 _ (w_ hl);have k7:R.take (k+1)=R.take k++[R[k]]:=v_ hl;generalize R[k]=r at *;have k8:=b1.yw;have v5:0 < n:=by
       rcases an_ n with h|h
       ·exact absurd (ae_.1 o_) k6
       ·exact h
      have v6:(1:Int)<=(c:Int):=o_
      have q4:IntKind.u64.wrap (z:Int)=(z:Int):=by simp[IntKind.wrap_u64];omega
      have i8:Row wr wr A n 5 (itc r):=b1.up E.2.2.2.2.2.2.size;have k9:Row wr wr A 1 5 (itc (r.take 1)):=by rw[ex1];exact i8.pre o_
      have hp:=put_any A5 n5 c5 (Tb.index 0 (R.take k)) z o_ wr o_ E.2.2.2.1;obtain⟨n6,b2⟩:=n_ (n5+(Pn.put z).length);rw[<-b2]at hp;have k':n6<=5300:=by have:=Pn.jq z;omega
      clear b2;have HP:=H_ hp;have l2:=H_ k9;have q5:=H_ i8;have HT:=H_ (d_ k7 (d_ k5 e9));have q6:=H_ k8;have q7:=H_ i5;clear hp k9 i8 k7 k5 e9 b1 k6 k8 i5;go_wp2_with fail;refine HP.mono ?_;rintro e w4 ⟨A6,c6,rfl,b3,q9,q',C⟩;have l4:=zz1 A6 n6 c6 (Tb.index 0 (R.take k)++Pn.put z) A 1 c (r.take 1) w4 o_ o_ (Row.own b3) ((l2.below C).up C.size) (fun x hx=>HT.2.2 x (a2_ hx));have l5:=H_ l4;have l6:=H_ C;clear l4 b3 C HP l2;go_wp2_with fail;refine l5.mono ?_;rintro e w5 ⟨A7,n7,c7,rfl,b5,i9,i',a0⟩;have H:=az l6.out a0;have l7:=nq5 A4 z c4 (Tb.blocks (R.take k)) A n c r w5 o_ E.2.1 E.2.2.1 (by have:=q6.out;omega) ((E.1.below H).up H.size) ((q5.below H).up H.size) HT.2.1 (fun x hx=>(HT.2.2 x hx).2);have l8:=H_ l7;have o:=H_ (d_ (Row.own b5) (d_ i9 (d_ i' H)));clear l7 b5 H a0 l5 l6;go_wp2_with fail;refine l8.mono ?_;rintro e w6 ⟨A8,n8,c8,rfl,b6,l9,l',Q⟩;have f0:=az o.2.2.2 Q;have d8:=Row.own b6;have d9:=(o.1.below Q).up Q.size;have f1:Tb.blocks (R.take (k+1))=Tb.blocks (R.take k)++Fr.put 2 (It.bytes r):=by rw[HT.1,Tb.ny3]
      have b7:Tb.index 0 (R.take (k+1))=(Tb.index 0 (R.take k)++Pn.put z)++It.bytes (r.take 1):=by rw[HT.1,Tb.rq2,am_,i7.out]
      rw[<-f1]at d8;rw[<-b7]at d9;have m0:=d8.xk;have r3:=d9.xk;have v7:(R.take (k+1)).length<=100:=by rw[y_];have:=q7.out;omega
      have m1:=Tb.xj1 (R.take (k+1)) (fun x hx=>(HH.2.2.1 x (a2_ hx)).2.1);have m2:=Tb.uw1 0 (R.take (k+1));have r4:n8<=66200:=o_
      have r5:n7<=5200:=o_
      have HF:=H_ (d_ m0.symm (d_ d8 (d_ l9 (d_ l' (d_ d9 (d_ o.2.1 (d_ o.2.2.1 (az E.2.2.2.2.2.2 f0))))))));clear f0 d8 d9 f1 b7 m0 r3 m1 m2 Q b6 o l8;go_wp2;go_roundw
      case rel=>exact⟨k+1,n8,c8,n7,c7,A8,A7,o_,rfl,rfl,by go_num,r4,r5,HF⟩
      case measure=>simp[intOf];omega
     ·have q3:((k:Int) < (K:Int))=False:=eq_false o_
      have f2:R.take k=R:=i_ o_;rw[f2]at E i7;clear f2;have v8:IntKind.u64.wrap (m:Int)=(m:Int):=by simp[IntKind.wrap_u64];omega
      have q4:IntKind.u64.wrap (z:Int)=(z:Int):=by simp[IntKind.wrap_u64];omega
      have hp:=put_any none 0 0 [] z o_ wr o_ Row.nil_;simp only[am_,D_]at hp;have m3:=((hq.below HH.2.1).up HH.2.1.size).below E.2.2.2.2.2.2;have m4:=m3.up E.2.2.2.2.2.2.size;obtain⟨n6,b2⟩:=n_ ((Pn.put z).length);rw[<-b2]at hp;have k':n6<=10:=by have:=Pn.jq z;omega
      have HP:=H_ hp;have HQ:=H_ m4;clear hp b2 m3 m4 hq;go_wp2_with fail;refine HP.mono ?_;rintro e w4 ⟨A6,c6,rfl,b3,q9,q',C⟩;have m5:=lv1 A4 z c4 (Tb.blocks R) 3 A5 n5 c5 (Tb.index 0 R) w4 o_ E.2.1 E.2.2.1 ((E.1.below C).up C.size) o_ o_ o_ E.2.2.2.2.1 E.2.2.2.2.2.1 ((E.2.2.2.1.below C).up C.size);have m6:=H_ m5;have j0:=H_ (d_ (Row.own b3) C);clear m5 b3 C HP;go_wp2_with fail;refine m6.mono ?_;rintro e w5 ⟨A7,n7,c7,rfl,b5,i9,i',a0⟩;have f3:=az j0.2 a0;have d':=Row.own b5;have v9:n7<=71412:=by
       have h1:=d'.xk;have h2:=E.1.xk;have h3:=E.2.2.2.1.xk;rw[e_,Fr.oq]at h1;omega
      have f4:=d'.xk;have v':IntKind.u64.wrap (n7:Int)=(n7:Int):=by simp[IntKind.wrap_u64];omega
      have j2:=put_any A6 n6 c6 (Pn.put z) n7 o_ w5 o_ ((j0.1.below a0).up a0.size);obtain⟨n8,m7⟩:=n_ (n6+(Pn.put n7).length);rw[<-m7]at j2;have t6:n8<=20:=by have:=Pn.jq n7;omega
      have m8:=H_ j2;have o:=H_ (d_ d' (d_ i9 (d_ i' (d_ f3 f4))));clear j2 m7 d' f3 f4 b5 a0 j0 m6;go_wp2_with fail;refine m8.mono ?_;rintro e w6 ⟨A8,c8,rfl,b6,l9,l',Q⟩;have b8:=E.2.2.2.2.2.2.trans ((az o.2.2.2.1 Q).mono E.2.2.2.2.2.2.size);have b0:=p7.out J (p8.out trivial) w6 (az HH.2.1 b8);have m9:=H_ b0;have b9:=H_ (d_ (Row.own b6) (d_ Q b8));clear b0 b6 Q b8 m8;go_wp2_with fail;refine m9.mono ?_;rintro e w7 ⟨f,g,rfl,m',r7,r8,n0⟩;have n1:(Tb.bits l).length<=3000:=by rw[Tb.iz3];unfold Tb.nz2;omega
      have n2:=tk3 f g (Tb.bits l) w7 m' n1;have n3:=H_ n2;have n9:=H_ n0;clear n2 m' r7 r8 n0 m9 n1;go_wp2_with fail;refine n3.mono ?_;rintro e w8 ⟨r9,n',r',rfl,f5,o0,o1,f6⟩;have b':=az n9.out f6;have a5:=az b9.2.1 b';have a6:=Row.own f5;have t7:n'<=3000:=by
       have h1:=a6.xk;have h2:=Tb.uv3 l o_;rw[<-h1];exact h2
      have f7:=lv1 A7 n7 c7 (Tb.blocks R++Fr.put 3 (Tb.index 0 R)) 4 r9 n' r' (blb (Tb.bits l)) w8 o_ o.2.1 o.2.2.1 ((o.1.below a5).up a5.size) o_ o_ o_ o0 o1 a6;have f8:=H_ f7;have o2:=H_ (d_ a5 (d_ b' a6.xk));clear f7 f5 a6 b' a5 f6 n3 n9;go_wp2_with fail;refine f8.mono ?_;rintro e w9 ⟨s0,o3,s1,rfl,f9,o4,o5,g4⟩;have c9:=Row.own f9;have t8:o3<=74424:=by
       have h1:=c9.xk;rw[e_,Fr.oq,o.2.2.2.2,o2.2.2]at h1;omega
      have a7:=az o2.2.1 g4;have j3:=put_any A8 n8 c8 (Pn.put z++Pn.put n7) m o_ w9 o_ ((b9.1.below a7).up a7.size);obtain⟨o6,g8⟩:=n_ (n8+(Pn.put m).length);rw[<-g8]at j3;have s2:o6<=30:=by have:=Pn.jq m;omega
      have o7:=H_ j3;have U:=H_ (d_ c9 (d_ o4 (d_ o5 a7)));clear j3 g8 c9 a7 f9 g4 f8;go_wp2_with fail;refine o7.mono ?_;rintro e o8 ⟨s3,s6,rfl,g',o9,o',a8⟩;have h0:=lv1 s0 o3 s1 ((Tb.blocks R++Fr.put 3 (Tb.index 0 R))++Fr.put 4 (blb (Tb.bits l))) 5 s3 o6 s6 ((Pn.put z++Pn.put n7)++Pn.put m) o8 o_ U.2.1 U.2.2.1 ((U.1.below a8).up a8.size) o_ o_ o_ o9 o' (Row.own g');have h6:=H_ h0;have h7:=H_ a8;clear h0 g' a8 o7;go_wp2_with fail;refine h6.mono ?_;rintro e x3 ⟨s7,s8,s9,rfl,d0,p0,p1,h8⟩;have p2:=az (b9.2.2.trans ((az (az U.2.2.2 h7) h8).mono b9.2.2.size)) b0_;have hz:=az HH.2.1 p2;have p3:((Tb.blocks R++Fr.put 3 (Tb.index 0 R))++Fr.put 4 (blb (Tb.bits l)))++Fr.put 5 ((Pn.put z++Pn.put n7)++Pn.put m)=Tb.make l:=by
       have e1:=i7.out;have e2:=o.2.2.2.2;unfold Tb.make;have e3:Tb.rows l=R:=HH.2.2.2.2.symm;show _=(Tb.blocks (Tb.rows l)++Fr.put 3 (Tb.index 0 (Tb.rows l)))++(Fr.put 4 (Tb.filt l)++Fr.put 5 (Pn.put (Tb.blocks (Tb.rows l)).length++(Pn.put (Tb.blocks (Tb.rows l)++Fr.put 3 (Tb.index 0 (Tb.rows l))).length++Pn.put l.length)))
       rw[e3,<-e1,e2,d2];simp only[J_];rfl
      rw[p3]at d0;have p4:=own_base d0 (show (w:Nat)<=(o8:Nat) by have a1:=HH.2.1.size;have a2:=b9.2.2.size;have a3:=U.2.2.2.size;have a4:=h7.size;omega);have HF:=H_ (d_ p4 (d_ p0 (d_ p1 hz)));clear p4 d0 hz p2 h8 p3 h6;go_wp2;go_ret2;exact .inl ⟨HH.2.2.2.1,s7,s8,s9,rfl,HF⟩
 ·have hd:decide (m<=2000)=false:=decide_eq_false J
  have p9:((2000:Int) < (m:Int))=True:=eq_true o_;go_enter func159,ntmps159;go_wp2;go_ret2;exact O.out _ 2 (by rw[hd];rfl) o_ b0_
theorem lq4 (A:Option Addr) (n c:Nat) (a:List UInt8) (B:Option Addr) (m d:Nat) (b:List UInt8) (w:World) (o:Row w w A n 1 (bts a)) (z:Row w w B m 1 (bts b)):
  Calls prog 160 #[.slice A n c,.slice B m d] w fun e w'=>e=.returned (.bool (a==b))/\w'=w:=by
 have c1:=bz2 o c;have c2:=bz2 z d;go_enter func160,ntmps160;go_wp2;go_ret;exact⟨by simp,rfl⟩
theorem ij3:(prog.info? 34).map (fun i=>(i.zero,i.size,i.bytes))=some (some (.slice none 0 0),1,24):=by kernel_rfl
def TbAt (w:World) (f:Nat) (rs:List (List It)):Prop:=∃P n c cnt,cnt=rs.flatten.length/\BoxO w 229 f [.slice P n c,.int .i64 ((cnt:Nat):Int),.int .u32 0,.int .i32 0,.int .u32 0,.pointer none]/\n<=c/\c<=maxLen/\nj1 w w P n rs
def qy3 (b h:Nat) (w w':World):Prop:=h<=(w':Nat)/\∀g,b<=g->g < h->w'.heap[g]?=w.heap[g]?
theorem qy3.dk6 {F:List Nat} {b:Nat} {w w':World} (c:Chg F w w') (hF:∀g∈F,g < b):qy3 b w w w':=⟨c.size,fun g h1 h2=>c.block g h2 (fun o=>by have:=hF g o;omega)⟩
theorem Row.ev6 {B n size b h:Nat} {w w':World} {A:Option Addr} {xs:List Value} (o:Row B w A n size xs) (z:qy3 b h w w') (E:B<=h) (C:∀a,A=some a->b<=a.block):Row B w' A n size xs:=by
 refine⟨o.len,fun j hj=>?_⟩;obtain⟨a,e,h1,h2⟩:=o.cell j hj;refine⟨a,e,h1,?_⟩;rw[X_ (w:=w) (by rw[add_block];exact z.2 a.block (C a e) o_)];exact h2
def oy1 (b:Nat) (no:Option Nat) (w:World) (ls:List (List It)) (vs:List Value):Prop:=ls.length=vs.length/\∀i (h:i < ls.length),∃A k c,vs[i]?=some (.slice A k c)/\k<=c/\c<=maxLen/\Row w w A k 5 (itc ls[i])/\∀a,A=some a->b<=a.block/\a.block < (w:Nat)/\some a.block≠no
theorem oy1.step {b:Nat} {no no':Option Nat} {w w':World} {ls:List (List It)} {vs:List Value} (z:oy1 b no w ls vs) (I:(w:Nat)<=(w':Nat)) (C:∀g,b<=g->g < (w:Nat)->some g≠no->w'.heap[g]?=w.heap[g]?) (E:∀g,g < (w:Nat)->some g≠no->some g≠no'):oy1 b no' w' ls vs:=by
 refine⟨z.1,fun i hi=>?_⟩;obtain⟨A,k,c,h1,h2,h3,h4,h5⟩:=z.2 i hi;refine⟨A,k,c,h1,h2,h3,⟨h4.len,fun j hj=>?_⟩,fun a o=>⟨(h5 a o).1,by have:=(h5 a o).2.1;omega,E _ (h5 a o).2.1 (h5 a o).2.2⟩⟩;obtain⟨a,e,q1,H⟩:=h4.cell j hj;refine⟨a,e,o_,?_⟩;rw[X_ (w:=w) (by rw[add_block];exact C _ (h5 a e).1 (h5 a e).2.1 (h5 a e).2.2)];exact H
theorem oy1.row {b:Nat} {no:Option Nat} {w:World} {ls:List (List It)} {vs:List Value} (o:oy1 b no w ls vs) {P:Option Addr} {n:Nat} (z:Row w w P n 1 vs):nj1 w w P n ls:=
 ⟨vs,z,by have:=z.len;have:=o.1;omega,fun i hi=>let ⟨A,k,c,h1,h2,h3,h4,_⟩:=o.2 i hi;⟨A,k,c,h1,h2,h3,h4⟩⟩
theorem oy1.snoc {b:Nat} {no:Option Nat} {w:World} {ls:List (List It)} {vs:List Value} (o:oy1 b no w ls vs) {l:List It} {A:Option Addr} {k c:Nat} (h1:k<=c) (h2:c<=maxLen) (h3:Row w w A k 5 (itc l)) (h4:∀a,A=some a->b<=a.block/\a.block < (w:Nat)/\some a.block≠no):oy1 b no w (ls++[l]) (vs++[.slice A k c]):=by
 refine⟨by rw[e_,e_,o.1];rfl,fun i hi=>?_⟩;rw[e_]at hi
 rcases ad_ i ls.length with q1|q1
 ·obtain⟨A,k,c,z,C,E,H,I⟩:=o.2 i q1
  refine⟨A,k,c,by rw[K_ (by have:=o.1;omega)];exact z,C,E,?_,I⟩;rw[aL_ q1];exact H
 ·have J:i=ls.length:=by simp at hi;omega
  subst J;refine⟨A,k,c,by rw[o.1];simp,h1,h2,?_,h4⟩;rw[bL_ l_];simp only[by_,a5_];exact h3
theorem TbAt.of {b f o:Nat} {w W:World} {v:Value} {vs:List Value} {rs:List (List It)} {no:Option Nat} (I:o=rs.flatten.length) (J:b<=f) (E:BoxO w 229 f [v,(o:Int),.int .u32 0,.int .i32 0,.int .u32 0,.pointer none]) (H:w.ownsRow b 34 1 v rs.length vs) (O:oy1 b none w rs vs) (z:qy3 b w w W):TbAt W f rs:=by
 have C:BoxO W 229 f _:=(z.2 f J E.lt).trans E;obtain⟨P,c,rfl,h1,h2,h3⟩:=ay H;refine⟨P,_,c,o,I,C,h1,h2,?_⟩;have Q:=((Row.own H).ev6 z l_ (fun a U=>(h3 a U).1)).up z.1;exact(O.step (no':=none) z.1 (fun g h4 h5 _=>z.2 g h4 h5) (fun g _ h=>h)).row Q
theorem jv5 (f o:Nat) (rs:List (List It)) (w:World) (h:TbAt w f rs) (z:o=rs.flatten.length) (Q:rs.length<=1000000) (U:o<=1000000):
  Calls prog 99 #[f] w fun e w'=>∃A' c',e=.returned (.slice A' o c')/\
   w'.ownsRow w 33 5 (.slice A' o c') o (itc rs.flatten)/\o<=c'/\c'<=maxLen/\Below w w w':=by
 obtain⟨P,n,c,_,_,E,_,_,H⟩:=h;have J:=E.c0;have C:=sv1 P n c rs w (by have:=H.len;omega) o_ H;rw[<-z]at C;have I:=H_ C;clear E H C z;go_enter func99,ntmps99;go_wp2_with fail;refine I.mono ?_;rintro e w1 ⟨A',c',rfl,h1⟩;have O:=H_ h1;clear h1 I;go_wp2;go_ret;exact⟨A',c',rfl,O⟩
def tv5 (w:World) (b:List UInt8) (e:Ending) (w':World):Prop:=Below w w w'/\
 ((Tb.open_ b=none/\∃er:Nat,er≠0/\e=.returned (.tuple #[.pointer none,(er:Int)]))\/
  (∃rs,Tb.open_ b=some rs/\∃f,e=.returned (.tuple #[.pointer (some ⟨f,0,none⟩),.int .i64 0])/\∀W,qy3 w w' w' W->TbAt W f rs))
theorem nj3 {b:List UInt8} {p:Nat} (h:(fk1 b p).2.2=0):p+12<=(fk1 b p).2.1/\(fk1 b p).2.1<=b.length/\(fk1 b p).1.length<=100/\Tb.may (fk1 b p).1=true:=by
 unfold fk1 at h ⊢;split
 ·rename_i h1
  obtain⟨h2,_,_,h3,h4⟩:=h1;have h5:=Fr.vj1 h2;exact⟨h5.1,h5.2,h3,h4⟩
 ·rename_i h1
  rw[if_neg h1]at h;simp at h
theorem py2 (f:Nat) (b:List UInt8) (p:Nat):Tb.parse (f+1) b p=if (fk1 b p).2.2=0 then (fk1 b p).1::Tb.parse f b (fk1 b p).2.1 else []:=by
 rw[Tb.parse];unfold fk1;split<;>simp
theorem gz4 (A:Option Addr) (N c:Nat) (b:List UInt8) (w:World) (hN:N<=100000) (i8:N<=c) (i9:c<=maxLen) (hr:Row w w A N 1 (bts b)):
  Calls prog 93 #[.slice A N c] w (tv5 w b):=by
 obtain⟨i0,i',j0,j2,j3⟩:=info_parts ij3;have e5:=hr.xk;have HR:=H_ hr;have e6:=H_ e5;clear hr e5;have e7:=b_ w (.cells #[.slice none 0 0,.int .i64 0,.int .u32 0,.int .i32 0,.int .u32 0,.pointer none] 229);have e9:=BoxO.new w #[.slice none 0 0,.int .i64 0,.int .u32 0,.int .i32 0,.int .u32 0,.pointer none] 229;have j4:=H_ e7;have j5:=H_ e9;clear e7 e9;go_enter func93,ntmps93;go_wp2_with fail
 go_loopw [5] (fun at_ wr=>∃(p fu z:Nat) (rs:List (List It)) (v:Value) (vs:List Value),at_=.int .i64 p/\p<=N/\rs.length *12<=p/\z<=rs.length *100/\Hid (z=rs.flatten.length/\N - p < fu/\rs++Tb.parse fu b p=Tb.parse (N+1) b 0/\(∀r∈rs,∀y∈r,y.fit)/\
   BoxO wr 229 (w:Nat) [v,(z:Int),.int .u32 0,.int .i32 0,.int .u32 0,.pointer none]/\wr.ownsRow ((w:Nat)+1) 34 1 v rs.length vs/\oy1 ((w:Nat)+1) v.ownBlock wr rs vs/\Below w w wr))
  (fun i _=>N - (intOf i).toNat)
 case atStart=>exact⟨0,N+1,0,[],_,[],rfl,o_,by simp,o_,H_ ⟨by simp,o_,by simp,fun r h=>(by simp at h),j5,G_ _ _ _ _,⟨rfl,fun i h=>absurd h s_⟩,j4⟩⟩
 case round=>
  obtain⟨p,fu,z,rs,v,vs,rfl,j6,m0,m1,C⟩:=hrel;have Q:=pz4 A N c b p wr o_ i8 i9 ((HR.below C.2.2.2.2.2.2.2).up C.2.2.2.2.2.2.2.size) j6;obtain⟨T,hT⟩:=n_ (fk1 b p);obtain⟨l,nx,er⟩:=T;rw[<-hT]at Q;have e':=H_ Q;have HT:=H_ hT;clear Q hT;go_wp2_with fail;refine e'.mono ?_;rintro e w1 ⟨A1,I,c1,rfl,b8,b9,b'⟩;simp only at b8 b9;have H:=H_ (d_ b8 (d_ b9 b'));have a':=C.2.2.2.2.1.below b';have d0:=a'.c0;have d1:=a'.c1;have HX:=H_ a';have l1:(w:Nat) < (wr:Nat):=C.2.2.2.2.1.lt;clear b8 b9 b' a' e'
  by_cases he:er=0
  ·subst he
   obtain⟨f0,b0,a5,U⟩:=nj3 (b:=b) (p:=p) (by rw[<-HT.out]);rw[<-HT.out]at f0 b0 a5 U;rw[e6.out]at b0;simp only at f0 b0 a5 U;have f1:0 < l.length:=bu_.2 (by intro e;rw[e]at U;simp[Tb.may]at U);have m4:0 < I:=by rw[H.1];exact f1
   have j7:I<=100:=by rw[H.1];exact a5
   obtain⟨a1,rfl,j8⟩:∃a,A1=some a/\a.block < (w1:Nat):=by
    obtain⟨a,e1,e2⟩:=H.2.1.row.some_ (by rw[iw];omega);exact⟨a,e1,e2⟩
   have m5:=H.2.1.low a1 rfl;have d2:∀g,v.ownBlock=some g->g < (wr:Nat):=by
    intro g hg
    rcases C.out.2.2.2.2.2.1.2 with ⟨rfl,_⟩|⟨g',cap,cur,rfl,hb,f3,_⟩
    ·simp[Value.ownBlock]at hg
    ·obtain rfl:g'=g:=by simpa [Value.ownBlock] using hg
     exact(E_.1 f3).1
   have o:oy1 ((w:Nat)+1) v.ownBlock w1 (rs++[l]) (vs++[.slice (some a1) I c1]):=by
    have h1:=C.2.2.2.2.2.2.1.step (no':=v.ownBlock) H.2.2.size (fun g _ h5 _=>H.2.2.block g h5) (fun g _ h=>h);refine h1.snoc H.2.1.nc H.2.1.cm H.2.1.row (fun a ha=>?_);injection ha with ha;subst ha;refine⟨o_,j8,fun e=>?_⟩;have:=d2 _ e.symm;omega
   have j9:=H_ o;have m7:=H_ d2;have m8:=H_ (d_ a5 U);have E:=(own_below C.2.2.2.2.2.1 H.2.2).alloc (.cells #[.slice (some a1) I c1] 34);have j':=H_ E;have Q:=(Below.refl ((w:Nat)+1) w1).alloc (by have:=H.2.2.size;omega) (.cells #[.slice (some a1) I c1] 34);have f4:=H_ Q;have m9:IntKind.i64.wrap ((z:Int)+(I:Int))=((z+I:Nat):Int):=by rw[M_ _ o_];omega
   have l6:=H.2.2.size;clear o d2 a5 U E Q f1;go_wp2_with (at_builtin;refine iq ?_);refine gz (xw rfl (.tmp 26) (.tmp 28) _ rfl ((w:Nat)+1) 34 i0 _ 1 24 underlying108 i' j0 j2 j3 rfl o_ w1 f4.out (by rw[F_];omega) v rs.length vs rfl j'.out _ (some ⟨w1,0,none⟩) 1 1 o_ [.slice (some a1) I c1] rfl (Row.new w1 #[.slice (some a1) I c1] 34 rfl) (by simp[Value.oneCell']) (rs.length+1) _ rfl rfl (by unfold maxLen;omega) o_ ?_);intro A4 c4 w2 a7 d3 f5 _ _ b3;have a0:BoxO w2 229 (w:Nat) [v,(z:Int),.int .u32 0,.int .i32 0,.int .u32 0,.pointer none]:=(d3.block _ o_).trans HX;have e0:=a0.c0;have e1:=a0.c1;have e2:=a0.free 0;have e3:=a0.free 1;have HG:=H_ (d_ a0 (d_ a7 (d_ d3 (d_ f5 b3))));clear a0 a7 d3 f5 b3;go_wp2;go_roundw
   case rel=>
    obtain⟨q1,q2,q3,q4,q5⟩:=HG.out;have f6:some (w:Nat)≠v.ownBlock:=by
     intro e
     rcases C.out.2.2.2.2.2.1.2 with ⟨rfl,_⟩|⟨g',cap,cur,rfl,hb,f3,_⟩
     ·simp[Value.ownBlock]at e
     ·simp[Value.ownBlock]at e
      omega
    have f7:some (w:Nat)≠(Value.slice A4 (rs.length+1) c4).ownBlock:=by
     intro e
     rcases q5 with h|h
     ·rw[h]at e;exact f6 e
     ·rw[h,F_]at e
      injection e with e;omega
    have k0:=(q1.store 0 (.slice A4 (rs.length+1) c4)).store 1 (.int .i64 ((z+I:Nat):Int));have hT:=HT.out;have b1:(w2:Nat)=((w2.setCell w (.slice A4 (rs.length+1) c4)).setCell (w,1) (.int .i64 ((z+I:Nat):Int))).heap.size:=by simp
    have f8:∀g,g≠(w:Nat)->((w2.setCell w (.slice A4 (rs.length+1) c4)).setCell (w,1) (.int .i64 ((z+I:Nat):Int))).heap[g]?=w2.heap[g]?:=by
     intro g hg;rw[Below.heap_setCell _ _ _ g (fun e=>hg e),Below.heap_setCell _ _ _ g (fun e=>hg e)]
    have d4:=q2.kept (grownBy_setCell' w2 w (.slice A4 (rs.length+1) c4)) (.inr f7.symm);have k2:(w2.setCell w (.slice A4 (rs.length+1) c4)).grownBy ((w2.setCell w (.slice A4 (rs.length+1) c4)).setCell (w,1) (.int .i64 ((z+I:Nat):Int))) (some (w:Nat)):=
     ⟨rfl,rfl,rfl,by simp,fun k _ hk=>Below.heap_setCell _ _ _ k (fun e=>hk (by rw[e]))⟩
    have d5:=d4.kept k2 (.inr f7.symm);have k3:=j9.step (no':=(Value.slice A4 (rs.length+1) c4).ownBlock) (w':=(w2.setCell w (.slice A4 (rs.length+1) c4)).setCell (w,1) (.int .i64 ((z+I:Nat):Int)))
     (by rw[<-b1];have:=q4.size;rw[F_]at this;omega)
     (fun g g1 g2 g3=>by rw[f8 g o_,q4.block g (by rw[F_];omega) g3,Below.heap_alloc _ _ g g2])
     (fun g g1 g2=>by
      rcases q5 with h|h
      ·rw[h];exact g2
      ·rw[h,F_]
       intro e;injection e with e;omega)
    have k4:Below w w ((w2.setCell w (.slice A4 (rs.length+1) c4)).setCell (w,1) (.int .i64 ((z+I:Nat):Int))):=by
     have h1:=(C.2.2.2.2.2.2.2.trans (H.2.2.mono C.2.2.2.2.2.2.2.size)).trans (q3.mono (Nat.le_succ _));exact(h1.setCell (p:=⟨w,0,none⟩) l_ _).setCell (p:=⟨w,1,none⟩) l_ _
    obtain⟨f9,rfl⟩:∃f,fu=f+1:=⟨fu - 1,by have:=C.2.1;omega⟩;have g4:=C.2.2.1;rw[py2,<-hT,if_pos rfl]at g4;refine⟨nx,f9,z+I,rs++[l],.slice A4 (rs.length+1) c4,vs++[.slice (some a1) I c1],rfl,b0,by rw[e_];simp only[ax_];omega,by rw[e_];simp only[ax_];omega,H_ ⟨?_,by have:=C.2.1;omega,by rw[J_];exact g4,?_,?_,?_,?_,?_⟩⟩
    ·rw[bm_,e_,<-C.1,H.1];simp
    ·intro r hr
     rcases q_.1 hr with h1|h1
     ·exact C.2.2.2.1 r h1
     ·rw[c_.1 h1]
      intro y hy;have h2:l=(fk1 b p).1:=by rw[<-hT]
      rw[h2]at hy;unfold fk1 at hy;split at hy
      ·exact It.cx5 _ y hy
      ·simp at hy
    ·simpa using k0
    ·simpa using d5
    ·simpa using k3
    ·simpa using k4
   case measure=>simp[intOf];omega
  ·have n3:((er:Int)==0)=false:=by simp;omega
   have b5:Tb.parse (N+1) b 0=rs:=by
    have h1:=C.2.2.1;obtain⟨f9,rfl⟩:∃f,fu=f+1:=⟨fu - 1,by have:=C.2.1;omega⟩;rw[py2,<-HT.out,if_neg he,aM_]at h1;exact h1.symm
   have h0:Tb.open_ b=if (Tb.good rs.flatten=true/\Tb.make rs.flatten=b) then some rs else none:=by
    unfold Tb.open_;rw[e6.out,b5]
   have E:=own_below C.2.2.2.2.2.1 H.2.2;have o:=C.2.2.2.2.2.2.1.step (no':=none) H.2.2.size (fun g _ h5 _=>H.2.2.block g h5) (fun g _ h=>nofun);have d6:∀W,qy3 w w1 w1 W->TbAt W w rs:=fun W hW=>TbAt.of (b:=(w:Nat)) (no:=none) C.1 l_ HX.out (own_base E (Nat.le_succ _)) ⟨o.1,fun i hi=>let ⟨A,k,c,h1,h2,h3,h4,h5⟩:=o.2 i hi;⟨A,k,c,h1,h2,h3,h4,fun a ha=>⟨Nat.le_of_succ_le (h5 a ha).1,(h5 a ha).2⟩⟩⟩ hW;have h6:=d6 w1 ⟨B_ _,fun _ _ _=>rfl⟩;have h7:=jv5 w z rs w1 h6 C.1 o_ o_;have h8:=H_ h7;have k5:=H_ d6;have d7:=H_ h0;have b6:=C.2.2.2.2.2.2.2.trans (H.2.2.mono C.2.2.2.2.2.2.2.size);have J:=H_ b6;clear b5 h0 E o d6 h6 h7 b6;go_wp2_with fail;refine h8.mono ?_;rintro e w2 ⟨A2,c2,rfl,h9,k6,n4,h'⟩;have i1:=sj2 A2 z c2 rs.flatten w2 o_ k6 (Row.own h9) (fun x hx=>by
    obtain⟨r,h1,h2⟩:=List.mem_flatten.1 hx;exact C.2.2.2.1 r h1 x h2)
   have i2:=H_ i1;have i3:=H_ h';clear i1 h9 h' h8;go_wp2_with fail;refine i2.mono ?_;rintro e w3 (⟨a2,A3,M3,c3,rfl,i4,n9,n',b2⟩|⟨a2,k7,l9,rfl,b2⟩)
   ·have O:=az i3.out b2
    have heq:=lq4 A3 M3 c3 (Tb.make rs.flatten) A N c b w3 (Row.own i4) ((HR.below (J.trans (O.mono J.size))).up (J.trans (O.mono J.size)).size);obtain⟨q,hq⟩:=n_ ((Tb.make rs.flatten==b));rw[<-hq]at heq;have i5:=H_ heq;have HQ:=H_ (d_ hq (d_ a2 O));clear heq hq a2 O b2 i4 i2;go_wp2_with fail;refine i5.mono ?_;rintro e w4 ⟨rfl,rfl⟩;have a8:=J.trans (HQ.2.2.mono J.size);have a9:=H_ a8;clear a8 i5
    cases q with
    |true=>
     go_wp2;go_ret2;have h1:=HQ.1;have h2:Tb.open_ b=some rs:=by rw[d7.out,if_pos ⟨HQ.2.1,by simpa using h1.symm⟩]
     refine⟨a9,.inr ⟨rs,h2,(w:Nat),rfl,fun W hW=>k5.out W ⟨g_ HQ.2.2.size hW.1,fun g g1 g2=>?_⟩⟩⟩;rw[hW.2 g g1 (by have:=HQ.2.2.size;omega),HQ.2.2.block g g2]
    |false=>
     go_wp2;go_ret2;have h1:=HQ.1;have h2:Tb.open_ b=none:=by rw[d7.out,if_neg (fun h=>by rw[h.2]at h1;simp at h1)]
     exact⟨a9,.inl ⟨h2,9,o_,rfl⟩⟩
   ·have o0:((k7:Int)==0)=false:=by simp;omega
    have a8:=J.trans ((az i3.out b2).mono J.size);have h2:Tb.open_ b=none:=by rw[d7.out,if_neg (fun h=>by rw[h.1]at a2;cases a2)]
    have a9:=H_ (d_ a8 h2);clear a8 h2 a2;go_wp2;go_ret2;exact⟨a9.1,.inl ⟨a9.2,9,o_,rfl⟩⟩
theorem lj5 (w:World):Calls prog 43 #[.slice none 0 0] w fun e w'=>e=.returned (.slice none 0 0)/\w'=w:=by
 go_enter func43,ntmps43;go_wp2
 go_loopw [3,8] (fun o i wr=>o=.slice none 0 0/\i=.int .i64 0/\wr=w) (fun _ _ _=>0)
 case atStart=>exact⟨rfl,rfl,rfl⟩
 case round=>
  obtain⟨rfl,rfl,rfl⟩:=hrel;go_wp2;go_ret;exact⟨rfl,rfl⟩
theorem cy4 (w:World):Calls prog 94 #[.slice none 0 0] w fun e w'=>e=.returned (.slice none 0 0)/\w'=w:=by
 have o:∀W,(binOp .eql 108 (.slice none 0 0) (.slice none 0 0)).run prog W=.ok (.bool true) W:=fun W=>by kernel_rfl
 go_enter func94,ntmps94;go_wp2;go_ret;exact⟨rfl,rfl⟩
theorem xj4 (w:World):Calls prog 42 #[.slice none 0 0] w fun e w'=>e=.returned (.slice none 0 0)/\w'=w:=by
 have z:=H_ (cy4 w);have C:=H_ (jv1 none 0 0 w l_);go_enter func42,ntmps42;go_wp2_with fail;refine z.mono ?_;rintro e w1 ⟨rfl,rfl⟩;go_wp2
 go_loopw [3] (fun o wr=>o=.slice none 0 0/\wr=w1) (fun _ _=>0)
 case atStart=>exact⟨rfl,rfl⟩
 case round=>
  obtain⟨rfl,rfl⟩:=hrel;go_wp2
  go_loopw [5,14] (fun a i E=>a=.int .i64 (-1)/\i=.int .i64 0/\E=wr) (fun _ _ _=>0)
  case atStart=>exact⟨rfl,rfl,rfl⟩
  case round=>
   obtain⟨rfl,rfl,rfl⟩:=hrel;go_wp2_with fail;refine C.mono ?_;rintro e H ⟨rfl,rfl⟩;go_wp2;go_ret;exact⟨rfl,rfl⟩
theorem gw4 (s:Nat) (lg f c a l:Value) (A:Option Addr) (z:Nat) (w:World):
  Calls prog 41 #[s,.agg #[lg,.slice A 0 z,f,c,a,l]] w fun e w'=>e=.returned (.bool true)/\Below w w w':=by
 have C:=b_ w (.cells #[lg,.slice A 0 z,f,c,a,l] 106);go_enter func41,ntmps41;go_wp2
 go_loopw [13] (fun i wr=>i=.int .i64 0/\Below w w wr) (fun _ _=>0)
 case atStart=>exact⟨rfl,C⟩
 case round=>
  obtain⟨rfl,o⟩:=hrel;go_wp2;go_ret;exact⟨rfl,o⟩
end Go.Proofs.YtfbkjjdfboagfaaGreatDoor
