/- Some of the texts. No conditions. -/
import Derived.Test.YtkdbagdiplpcfaaGreatDoorBunAG
import Derived.Test.YtkdbagdiplpcfaaGreatDoorBunAI

set_option linter.unusedSimpArgs false
set_option linter.unusedVariables false
set_option maxRecDepth 100000
set_option maxHeartbeats 16000000
namespace Go.Proofs.YtkdbagdiplpcfaaGreatDoor
open Go.Proofs.Tryz Go Go.RowKit Go.Lib Go.Shelf
def It.ns (x:It):List Nat:=[x.t,x.v,sgn x.x]
theorem It.bv6 (x:It):x.one=[UInt8.ofNat x.s.toNat,UInt8.ofNat x.k.toNat] ++x.ns.flatMap Pn.put:=by simp[It.one,It.ns]
theorem qx2 {w:World} {base size n:Nat} {e:TypeId} {v:Value} {xs:List Value} (h:w.ownsRow base e size v n xs) {g:Nat} (H:w.heap.size<=g):some g≠v.ownBlock:=by
 rcases h.2 with ⟨rfl,_⟩|⟨C,cap,cur,rfl,_,E,_⟩
 ·intro e;cases e
 ·have:C < w.heap.size:=(A_.1 E).1
  intro e;have e:g=C:=ai_ e;omega
theorem BoxO.uq1 {w w':World} {e:TypeId} {g:Nat} {xs:List Value} {r:Option Nat} (h:BoxO w e g xs) (E:w.grownBy w' r) (C:some g≠r):BoxO w' e g xs:=(E.block g h.lt C).trans h
theorem zz4 {l:List It} {k:Nat} (h:k < l.length):(l.take (k+1)).flatMap It.one=(l.take k).flatMap It.one++l[k].one:=by
 rw[r_ h,a8_];simp
theorem kz33 {P S a oi v} (h:Hv P S a oi v:=by intro w C;(obtain⟨d0,d1,d2⟩:=KZ.out w C);go_simp;try (with_reducible rfl)):Hv P S a oi v:=h
theorem zk1 (A:Option Addr) (N c:Nat) (b:List UInt8) (L:Option Addr) (m d:Nat) (l:List It) (w:World) (hN:N<=1000000) (hm:m<=2000) (hr:Row w.heap.size w A N 1 (bts b)) (hq:Row w.heap.size w L m 5 (itc l)) (hk:∀x∈l,x.ok=true/\x.fit):
  Calls prog 202 #[.slice A N c,.slice L m d] w fun e w'=>∃A' M c',e=.returned (.tuple #[.slice A' M c',.int .i64 0])/\
   w'.ownsRow w.heap.size 5 1 (.slice A' M c') M (bts (b++It.bytes l))/\M<=c'/\c'<=maxLen/\Below w.heap.size w w':=by
 obtain⟨i0,e3,e4,e5,e6⟩:=info_parts fj1;have o0:=hr.zk;have k8:=hq.qj;have o1:∀w,(convert 3 27 (.int .i64 (m:Int))).run prog w=.ok (.int .u64 (m:Int)) w:=by
  intro w;have:(m:Int) % 18446744073709551616=(m:Int):=o_
  simp[go_sem,convert,IntKind.wrap_u64,this]
 have e7:=xq2 L m d l w o_ hq;rw[show l.all It.ok=true from ab_.2 fun x hx=>(hk x hx).1]at e7;have o3:((2000:Int) < (m:Int))=False:=eq_false o_;have g7:=H_ e7;have HK:=H_ hk;clear e7 hk;go_enter func202,ntmps202;go_wp2_with fail;refine g7.out.mono ?_;rintro e w0 ⟨rfl,H⟩;have hp:=put_any A N c b m o_ w0 o_ ((hr.below H).up H.size);have g8:=(hq.below H).up H.size;have HP:=H_ hp;clear hp g7;go_wp2_with fail;refine HP.out.mono ?_;rintro e w1 ⟨A1,c1,rfl,e9,k9,o5,a'⟩;obtain⟨M1,g9⟩:=n_ (N+(Pn.put m).length);have n1:M1<=N+10:=by have:=(Pn.jq m).2;omega
 rw[<-g9]at e9 k9 ⊢;have l1:=(g8.below a').up a'.size;have b':=az H a';have l2:=H_ e9;have c9:=H_ b';have l3:=H_ H.size;clear e9 b' a' H hr hq g8 HP g9;go_wp2
 go_loopw [7,25] (fun o i wr=>∃(k q:Nat) (A2:Option Addr) (c2:Nat),k<=m/\o=.slice A2 q c2/\i=.int .i64 (k:Int)/\Hid (q<=32 *k/\wr.ownsRow w1.heap.size 5 1 (.slice A2 q c2) q (bts ((l.take k).flatMap It.one)))/\Below w1.heap.size w1 wr) (fun _ i _=>m - (intOf i).toNat)
 case atStart=>exact⟨0,0,none,0,w_ _,rfl,rfl,H_ ⟨o_,E_ _ _ _ _⟩,Below.refl _ _⟩
 case round=>
  obtain⟨k,q,A2,c2,o6,rfl,rfl,HQ,b2⟩:=hrel
  by_cases l4:k < m
  ·obtain⟨p,hl,rfl,o7,d0,d1,d2,d3,d4⟩:=(l1.below b2).it l4
   have l5:(k:Int) < (m:Int):=o_
   have o8:IntKind.i64.wrap (k:Int)=(k:Int):=D_ _ o_;obtain⟨e',h0⟩:=HK.out _ (u_ hl);have f5:=zz4 hl;have n3:=HQ.out.1;generalize l[k]=x at *;rw[It.uy3]at e';have e1:=qk3 (x:=x.s) o_ o_;have e2:=qk3 (x:=x.k) o_ o_;rw[It.bv6]at f5;generalize UInt8.ofNat x.s.toNat=u1 at *;generalize UInt8.ofNat x.k.toNat=u2 at *;have hU:=b_ wr (.cells #[.int .i64 x.s,.int .i64 x.k,.int .u64 (x.t:Int),.int .u64 (x.v:Int),.int .i64 x.x] 49);have Q:BoxO (wr.alloc (.cells #[.int .i64 x.s,.int .i64 x.k,.int .u64 (x.t:Int),.int .u64 (x.v:Int),.int .i64 x.x] 49)) 49 wr.heap.size x.cells:=BoxO.new wr #[.int .i64 x.s,.int .i64 x.k,.int .u64 (x.t:Int),.int .u64 (x.v:Int),.int .i64 x.x] 49;obtain⟨U,b3⟩:=n_ (wr.alloc (.cells #[.int .i64 x.s,.int .i64 x.k,.int .u64 (x.t:Int),.int .u64 (x.v:Int),.int .i64 x.x] 49));rw[<-b3]at hU Q;have hrow:Row (U.alloc (.cells #[.int .u8 (u1.toNat:Int),.int .u8 (u2.toNat:Int)] 5)).heap.size (U.alloc (.cells #[.int .u8 (u1.toNat:Int),.int .u8 (u2.toNat:Int)] 5)) (some ⟨U.heap.size,0,none⟩) 2 1 (bts [u1,u2]):=by
    have:=Row.new U #[.int .u8 (u1.toNat:Int),.int .u8 (u2.toNat:Int)] 5 (n:=2) (size:=1) rfl;simpa [bts] using this
   have b0:=Q.cell 0;have b1:=Q.cell 1;simp only[It.cells,gE0,gE1]at b0 b1;have f6:=az b2 hU;have h6:=own_below HQ.out.2 hU;have h7:=f6.alloc f6.size (.cells #[.int .u8 (u1.toNat:Int),.int .u8 (u2.toNat:Int)] 5);have h8:=h6.alloc (.cells #[.int .u8 (u1.toNat:Int),.int .u8 (u2.toNat:Int)] 5);have d5:=Q.alloc (.cells #[.int .u8 (u1.toNat:Int),.int .u8 (u2.toNat:Int)] 5);have d6:=H_ hrow;have f7:=H_ h7;have h9:=H_ h8;have d7:=H_ d5;have l6:=H_ f5;have l7:=H_ e';have b5:=H_ h0;have l8:=b3.symm;have p0:wr.heap.size+1=U.heap.size:=by rw[b3];simp
   clear hrow h7 h8 d5 f5 e' h0 hU Q f6 h6 b3;go_wp2_with (at_builtin;refine iy ?_);refine bz (iq rfl (.tmp 29) (.tmp 36) _ rfl w1.heap.size 5 i0 _ 1 1 underlying150 e3 e4 e5 e6 rfl o_ w1 f7.out f7.out.size _ q _ rfl h9.out _ _ 2 2 (bts [u1,u2]) rfl d6.out (av1 _) (q+2) _ rfl rfl (by unfold maxLen;omega) o_ ?_);intro A3 c3 w3 Z h' i1 p1 p2;have E:=d7.out.uq1 i1 (qx2 HQ.out.2 l_);have i2:∀w',Below w3.heap.size w3 w'->w'.cell? ⟨wr.heap.size,2,none⟩=some (.int .u64 (x.t:Int))/\w'.cell? ⟨wr.heap.size,3,none⟩=some (.int .u64 (x.v:Int))/\w'.cell? ⟨wr.heap.size,4,none⟩=some (.int .i64 x.x):=fun w' h=>by
    have e:=E.below h;exact⟨e.cell 2,e.cell 3,e.cell 4⟩
   have KZ:=H_ i2;have d0:=E.cell 2;have d1:=E.cell 3;have d2:=E.cell 4;simp only[It.cells,gE0,gE1]at d0 d1 d2;have i3:=fun W=>bk5 x.x b5.out.1 b5.out.2 W;have i4:=H_ i3;have f8:=H_ Z;have f9:=H_ h';have b7:x.ns=[x.t,x.v,sgn x.x]:=rfl;have I:∀n∈x.ns,n < 18446744073709551616:=by
    have h1:=l7.out;have h2:=oz5 b5.out.1 b5.out.2;rw[b7];intro n hn;simp only[f_,aL_,or_false]at hn
    rcases hn with rfl|rfl|rfl<;>omega
   obtain⟨sg,a0⟩:=n_ (sgn x.x);rw[<-a0]at b7;have l9:=H_ b7;have i5:=H_ I;have i6:=H_ a0;clear i3 Z h' E b7 I a0 i1 f7 h9 d7 d6 e1 e2 b0 b1 l8;go_wp2_with fail;clear d0 d1 d2 i2;refine w_h w3 fun C=>?_;refine w_v 0 C ?_ (k:=kz33);go_simp;refine w_v 1 C ?_ (k:=kz33);go_simp;refine w_v 2 C ?_ (k:=kz33);go_simp;refine w_v 3 C ?_ (k:=kz33);go_simp;refine w_v 4 C ?_ (k:=kz33);go_simp;refine w_v 5 C ?_ (k:=kz33);go_simp;refine w_v 9 C ?_ (k:=kz33);go_simp;refine w_r 6 fun K hK=>?_;go_simp
   with_reducible refine(i4.out _).mono ?_
   rintro e w7 ⟨rfl,rfl⟩;go_simp;refine hK.out _ _ C ?_;clear C hK K;intro C;go_simp;refine w_r 7 fun K hK=>?_
   skip
   go_simp;refine hK.out _ _ (C.alloc C.size _) ?_;clear C hK K;intro C;go_simp;refine w_v 8 C ?_ (k:=kz33);go_simp;refine w_d ?_;have b8:=C;clear C KZ i4 d0 d1 d2 d3 d4;have f':some w3.heap.size≠(Value.slice A3 (q+2) c3).ownBlock:=qx2 f8.out l_;have g0:=own_below f8.out b8;have J:BoxO (w3.alloc (.cells #[.int .u64 (x.t:Int),.int .u64 (x.v:Int),.int .u64 (sgn x.x:Int)] 27)).drew 27 w3.heap.size (u64v x.ns):=by
    have:=(BoxO.new w3 #[.int .u64 (x.t:Int),.int .u64 (x.v:Int),.int .u64 (sgn x.x:Int)] 27).drew;rw[l9.out,i6.out];exact this
   have a1:=f9.out.trans (b8.mono f9.out.size);obtain⟨g,hg⟩:=n_ w3.heap.size;rw[<-hg]at f' J;obtain⟨W,hW⟩:=n_ ((w3.alloc (.cells #[.int .u64 (x.t:Int),.int .u64 (x.v:Int),.int .u64 (sgn x.x:Int)] 27)).drew);rw[<-hW]at g0 J a1 b8 ⊢;have H0:=H_ (c_ g0 (c_ J a1));have m1:=H_ f';have m2:=hg.symm;clear g0 J a1 f' hW f8 f9 b8 hg;rw[m2];go_wp2_with fail
   go_loopw [7,47] (fun o i wq=>∃(j O:Nat) (A4:Option Addr) (c4:Nat),j<=3/\o=.slice A4 O c4/\i=.int .i64 (j:Int)/\Hid (O<=q+2+10 *j/\wq.ownsRow w1.heap.size 5 1 (.slice A4 O c4) O (bts ((l.take k).flatMap It.one++([u1,u2] ++(x.ns.take j).flatMap Pn.put)))/\some g≠(Value.slice A4 O c4).ownBlock/\BoxO wq 27 g (u64v x.ns))/\Below w1.heap.size w1 wq) (fun _ i _=>3 - (intOf i).toNat)
   case atStart=>exact⟨0,q+2,A3,c3,o_,rfl,rfl,H_ ⟨o_,by have:=H0.out.1;simpa [bts] using this,m1.out,H0.out.2.1⟩,H0.out.2.2⟩
   case round=>
    obtain⟨j,O,A4,c4,p4,rfl,rfl,HJ,g1⟩:=hrel;have p5:x.ns.length=3:=rfl
    by_cases p6:j < 3
    ·have m4:(j:Int) < 3:=o_
     have p7:IntKind.i64.wrap (j:Int)=(j:Int):=D_ _ o_;have g2:=HJ.out.2.2.2.cell j;rw[vq3,h_ o_]at g2;have I:=i5.out _ (u_ (show j < x.ns.length by omega));have a2:x.ns.take (j+1)=x.ns.take j++[x.ns[j]]:=r_ o_;generalize x.ns[j]=n at *;simp only[a3_]at g2;have g4:=fun W=>put_any none 0 0 [] n I W o_ Row.nil_;have p8:=Pn.jq n;simp only[an_,C_]at g4;have i9:=H_ g4;have m5:=H_ a2;clear g4 a2;go_wp2_with fail;refine(i9.out _).mono ?_;rintro e w7 ⟨A5,c5,rfl,i',p9,p',b9⟩;have j0:=Row.own i';have j1:=own_below HJ.out.2.1 b9;have a4:=HJ.out.2.2.2.below b9;have d9:=g1.trans (b9.mono g1.size);have q3:=a4.lt;generalize n8:(Pn.put n).length=pl at *;have q4:=HJ.out.1;have j2:=H_ j0;have j3:=H_ j1;have d':=H_ a4;have a5:=H_ d9;clear i' j0 j1 a4 d9 i9 b9;go_wp2_with (at_builtin;refine iy ?_);refine bz (cy1 rfl (.tmp 51) (.tmp 53) _ rfl w1.heap.size 5 i0 _ 1 1 underlying150 e3 e4 e5 e6 rfl o_ w1 a5.out a5.out.size _ O _ rfl j3.out _ _ pl c5 o_ (bts (Pn.put n)) rfl j2.out (av1 _) (O+pl) (bts ((l.take k).flatMap It.one++([u1,u2] ++(x.ns.take (j+1)).flatMap Pn.put))) rfl (by rw[m5.out];simp[bts]) (by unfold maxLen;omega) o_ ?_);intro A6 c6 w8 z1 z2 z3 z4 z5 z6;have j5:some g≠(Value.slice A6 (O+pl) c6).ownBlock:=by
      rcases z6 with z6|z6
      ·rw[z6];exact HJ.out.2.2.1
      ·rw[z6]
       intro e;have e:=ai_ e;omega
     have HF:=H_ (c_ (show O+pl<=q+2+10 *(j+1) by omega) (c_ z1 (c_ j5 (d'.out.uq1 z3 HJ.out.2.2.1))));clear z1 z3 z6 j5 j2 j3 d' a5 g2;go_wp2;go_roundw
     case rel=>exact⟨j+1,O+pl,A6,c6,o_,rfl,by go_num,HF,z2⟩
     case measure=>simp[intOf];omega
    ·have m4:((j:Int) < 3)=False:=eq_false o_
     have hj:j=3:=o_
     have a2:x.ns.take j=x.ns:=g_ o_;have ho:=HJ.out.2.1;rw[a2,<-l6.out]at ho;have HF:=H_ (c_ (show O<=32 *(k+1) by have:=HJ.out.1;omega) ho);clear ho a2;go_wp2;go_roundw
     case rel=>exact⟨k+1,O,A4,c4,o_,rfl,by go_num,HF,g1⟩
     case measure=>simp[intOf];omega
  ·have l5:((k:Int) < (m:Int))=False:=eq_false o_
   have e0:l.take k=l:=g_ o_;have hq:=HQ.out;rw[e0]at hq;have j7:=Row.own hq.2;have j8:=own_base (own_below l2.out b2) l3.out;have j9:=c9.out.trans (b2.mono c9.out.size);have q6:=hq.1;have j':=H_ j7;have k0:=H_ j8;have g5:=H_ j9;clear hq j7 j8 j9 e0;go_wp2_with (at_builtin;refine iy ?_);refine bz (iq rfl (.tmp 57) (.tmp 58) _ rfl w.heap.size 5 i0 _ 1 1 underlying150 e3 e4 e5 e6 rfl o_ w g5.out g5.out.size _ M1 _ rfl k0.out _ _ q c2 _ rfl j'.out (av1 _) (M1+q) (bts (b++It.bytes l)) rfl (by simp[It.bytes,bts,k8]) (by unfold maxLen;omega) o_ ?_);intro A6 c6 w8 z1 z2 z3 z4 z5;have HF:=H_ z1;clear z1 z3 j' k0 g5 HQ;go_wp2;go_ret2;exact⟨A6,_,c6,rfl,HF.out,z4,z5,z2⟩
structure BlAt (w:World) (f g:Nat) (b:List UInt8):Prop where
 box:BoxO w 325 f [.int .i64 7,.slice (some ⟨g,0,none⟩) b.length b.length]
 bits:BoxO w 5 g (bts b)
 ne:f≠g
theorem BlAt.below {w w':World} {f g:Nat} {b:List UInt8} (h:BlAt w f g b) (C:Below w.heap.size w w'):BlAt w' f g b:=⟨h.box.below C,h.bits.below C,h.ne⟩
theorem pw4 (n:Nat) (w:World) (hn:n<=2000):
  Calls prog 253 #[.int .i64 (n:Int),.int .i64 10] w fun e w'=>∃f g,e=.returned (.tuple #[.pointer (some ⟨f,0,none⟩),.int .i64 0])/\BlAt w' f g (List.replicate (Tb.mz2 n) 0)/\w.heap.size<=f/\w.heap.size<=g/\Below w.heap.size w w':=by
 obtain⟨Z,E,H,I,J⟩:=info_parts fj1;obtain⟨fs,C⟩:=n_ (Tb.mz2 n);have a0:fs<=3000:=by rw[C];unfold Tb.mz2;omega
 obtain⟨cs,O,a1⟩:=dy6 150 5 Z (Value.int .u8 0) underlying150 E H I rfl fs (by rw[J];omega) o_;rw[<-C];have n1:((n:Int) < 0)=False:=eq_false o_;have n2:(10000 < (n:Int))=False:=eq_false o_;have a2:IntKind.i64.wrap ((n:Int)*10)=(n:Int)*10:=D_ _ o_;have hq:(max ((n:Int)*10) 64+8 - 1) / 8=(fs:Int):=by rw[C];unfold Tb.mz2;omega
 have a4:max (7:Int) 1=7:=by decide
 have a5:=H_ C;clear C;go_enter func253,ntmps253;go_wp2;go_ret2;have Q:BoxO (w.alloc (.cells cs 5)) 5 w.heap.size (bts (List.replicate fs 0)):=by
  have:=BoxO.new w cs 5;rw[O]at this;simpa [bts] using this
 have U:(w.alloc (.cells cs 5)).heap.size=w.heap.size+1:=by simp
 refine⟨w.heap.size+1,w.heap.size,rfl,⟨?_,Q.alloc _,o_⟩,o_,y_ _,(b_ w _).alloc o_ _⟩;rw[<-U,b6_];exact BoxO.new _ _ _
theorem bw6 (C k size x:Nat) (E:x=(((C % 4294967296+k *(C / 4294967296)) % 4294967296)) % (size *8)):((C:Int)+(k:Int)*((C:Int) / 4294967296)) % 4294967296 % ((size:Int)*8)=(x:Int):=by
 have H:((k *(C / 4294967296):Nat):Int)=(k:Int)*((C:Int) / 4294967296):=by rw[Int.natCast_mul,Int.natCast_ediv];rfl
 have e:(C % 4294967296+k *(C / 4294967296)) % 4294967296=(C+k *(C / 4294967296)) % 4294967296:=by
  generalize k *(C / 4294967296)=q;omega
 rw[E,e,<-H];generalize k *(C / 4294967296)=q;have h3:((C:Int)+(q:Int)) % 4294967296=(((C+q) % 4294967296:Nat):Int):=o_
 have h4:(size:Int)*8=((size *8:Nat):Int):=o_
 rw[h3,h4];exact(Int.natCast_emod _ _).symm
theorem dj6 (C k size x:Nat) (E:0 < size) (H:size<=3000) (I:x=(((C % 4294967296+k *(C / 4294967296)) % 4294967296)) % (size *8)):x < 24000:=by
 have:=bP_ (((C % 4294967296+k *(C / 4294967296)) % 4294967296)) (show 0 < size *8 by omega);rw[<-I]at this;omega
theorem yv5 (x:Nat) (C:x < 24000):wrap64 (x:Int)=(x:Int):=by unfold wrap64;omega
theorem iy3 (f g:Nat) (b:List UInt8) (K:Option Addr) (m c:Nat) (key:List UInt8) (w:World) (h:BlAt w f g b) (Q:0 < b.length) (U:b.length<=3000) (hm:m<=1000) (hr:Row w.heap.size w K m 1 (bts key)):
  Calls prog 281 #[.pointer (some ⟨f,0,none⟩),.slice K m c] w fun e w'=>∃A' c',e=.returned (.slice A' 7 c')/\w'.ownsRow w.heap.size 3 1 (.slice A' 7 c') 7 (i64v (Tb.places b.length key))/\Below w.heap.size w w':=by
 obtain⟨i0,a',b0,b1,b2⟩:=info_parts zj4;have hh:=qx3 K m c key w o_ hr;obtain⟨size,C⟩:=n_ b.length;obtain⟨I,H⟩:=n_ ((Fnv.hash key).toNat);obtain⟨P,hP⟩:=n_ (Tb.places size key);have d8:I < 18446744073709551616:=by rw[H];exact(Fnv.hash key).isLt
 have Z:P.length=7:=by rw[hP];simp[Tb.places]
 have a0:∀k,k < 7->P[k]?=some ((((I % 4294967296+k *(I / 4294967296)) % 4294967296)) % (size *8)):=fun k hk=>by
  rw[hP,H];simp[Tb.places,hk]
 rw[<-C,<-hP];rw[<-H]at hh;have c0:=h.box.cell 0;have c1:=h.box.cell 1;simp only[gE0,gE1,<-C]at c0 c1;rw[<-C]at Q U;have HH:=H_ hh;have b6:=H_ a0;have b7:=H_ Z;clear hh a0 hP H C h Z hr;go_enter func281,ntmps281;go_wp2_with fail;refine HH.out.mono ?_;rintro e w1 ⟨rfl,rfl⟩;clear HH;go_wp2_with fail
 go_loopw [9,29] (fun o i wr=>∃(k:Nat) (A2:Option Addr) (c2:Nat),k<=7/\o=.slice A2 k c2/\i=.int .i64 (k:Int)/\wr.ownsRow w.heap.size 3 1 (.slice A2 k c2) k (i64v (P.take k))/\Below w.heap.size w wr) (fun _ i _=>7 - (intOf i).toNat)
 case atStart=>exact⟨0,none,0,o_,rfl,rfl,E_ _ _ _ _,Below.refl _ _⟩
 case round=>
  obtain⟨k,A2,c2,d9,rfl,rfl,O,E⟩:=hrel;have HO:=H_ O;clear O
  by_cases hk:k < 7
  ·have b8:(k:Int) < 7:=o_
   have d':IntKind.i64.wrap (k:Int)=(k:Int):=D_ _ o_;have e0:IntKind.u32.wrap (k:Int)=(k:Int):=by simp only[IntKind.wrap_u32];omega
   obtain⟨x,hx⟩:∃x:Nat,x=(((I % 4294967296+k *(I / 4294967296)) % 4294967296)) % (size *8):=⟨_,rfl⟩;have J:=b6.out k hk;rw[<-hx]at J;have e1:=bw6 I k size x hx;have b9:=dj6 I k size x Q U hx;have d3:=yv5 x b9;have a1:i64v (P.take k)++[.int .i64 (x:Int)]=i64v (P.take (k+1)):=by
    rw[List.take_add_one,J,kq4];rfl
   have hrow:Row (wr.alloc (.cells #[.int .i64 (x:Int)] 3)).heap.size (wr.alloc (.cells #[.int .i64 (x:Int)] 3)) (some ⟨wr.heap.size,0,none⟩) 1 1 [.int .i64 (x:Int)]:=by
    have:=Row.new wr #[.int .i64 (x:Int)] 3 (n:=1) (size:=1) rfl;simpa using this
   have a2:=E.alloc E.size (.cells #[.int .i64 (x:Int)] 3);have a4:=HO.out.alloc (.cells #[.int .i64 (x:Int)] 3);have HR:=H_ hrow;have HB:=H_ a2;have a5:=H_ a4;have HT:=H_ a1;clear hrow a2 a4 a1 J hx HO;go_wp2_with (at_builtin;refine iy ?_);refine bz (iq rfl (.tmp 32) (.tmp 42) _ rfl w.heap.size 3 i0 _ 1 8 underlying30 a' b0 b1 b2 rfl o_ w HB.out HB.out.size _ k _ rfl a5.out _ _ 1 1 [.int .i64 (x:Int)] rfl HR.out (by simp[Value.oneCell']) (k+1) _ rfl HT.out (by unfold maxLen;omega) o_ ?_);intro A3 c3 w5 z1 z2 z3 z4 z5;have HF:=H_ z1;clear z1 z3 HR HB a5 HT;go_wp2;go_roundw
   case rel=>exact⟨k+1,A3,c3,o_,rfl,by go_num,HF.out,z2⟩
   case measure=>simp[intOf];omega
  ·have b8:((k:Int) < 7)=False:=eq_false o_
   have a6:k=7:=o_
   subst a6;have O:=HO.out;rw[g_ (by rw[b7.out];exact y_ _)]at O;have HF:=H_ O;clear O HO;go_wp2;go_ret;exact⟨A2,c2,rfl,HF.out,E⟩
def It.zero:It:=⟨0,0,0,0,0⟩
theorem ez5 (w:World):Calls prog 116 #[] w fun e w'=>∃L ns,e=.returned (.pointer (some ⟨L,0,none⟩))/\SkAt w' L ns/\its ns=[]/\Below w.heap.size w w'/\∀g∈skF L ns,w.heap.size<=g:=by
 have E:=fun W=>zy2 It.zero 6 W o_ o_;unfold It.val at E;have I:=H_ E;clear E;go_enter func116,ntmps116;go_wp2_with fail;refine(I.out _).mono ?_;rintro e J ⟨b,tb,rfl,h1,h2,h3,h4,h5,H⟩;go_wp2;go_ret;have O:=h1.alloc (.cells #[.pointer (some ⟨b,0,none⟩),.int .i64 0] 225);have Q:=h2.alloc (.cells #[.pointer (some ⟨b,0,none⟩),.int .i64 0] 225);have hs:=H.size;have lb:=h1.lt;have lt:=h2.lt;refine⟨J.heap.size,[⟨It.zero,b,tb,6,6⟩],rfl,⟨⟨fun n C=>?_,fun i n hi=>?_,fun n C=>?_,?_⟩,⟨_,[],rfl,rfl,BoxO.new _ _ _⟩,?_,fun n C=>?_,aY_⟩,rfl,H.alloc hs _,fun g U=>?_⟩
 ·rw[a_.1 C]
  exact O
 ·cases i with
  |zero=>
   simp only[gE0,aC_]at hi;subst hi;exact⟨_,Q,rfl,fun l Z=>by rw[List.getElem?_replicate,if_pos Z];rfl⟩
  |succ i=>simp at hi
 ·rw[a_.1 C]
  exact⟨y_ _,y_ _⟩
 ·simpa using h3
 ·simp
  omega
 ·rw[a_.1 C]
  exact(by omega:1<=6)
 ·simp[skF]at U
  omega
def yq2 (w:World) (L:Nat) (ns:List Nd) (R:List It) (e:Ending) (w':World):Prop:=∃bb ns',e=.returned (.tuple #[.bool bb,.int .i64 0])/\SkAt w' L ns'/\its ns'=R/\Chg (skF L ns) w w'/\∀g∈skF L ns',g∈skF L ns\/w.heap.size<=g
theorem pz3 {ns:List Nd} (h:∀n∈ns,1<=n.h) (p:Nat):nxb 0 (ns.drop p)=(ns[p]?).map (·.b):=by
 have C:(ns.drop p)[0]?=ns[p]?:=by simp
 cases e:ns.drop p with
 |nil=>rw[e]at C;rw[<-C];rfl
 |cons a r=>
  rw[e]at C;have E:a∈ns:=b8_ (by rw[e];simp:a∈ns.drop p);have:=h a E;rw[<-C];unfold nxb nxt;have H:decide (0 < a.h)=true:=decide_eq_true o_;simp[H]
theorem Pred.insert {A R:List Nd} {n:Nd} {l q j:Nat} (h:Pred (A++R) l q j) (C:q=A.length):Pred (A++n::R) l A.length j:=by
 subst C;have e:∀i,i < A.length->(A++n::R)[i]?=(A++R)[i]?:=fun i hi=>by rw[O_ hi,O_ hi]
 exact⟨h.lt,by obtain⟨m,h1,h2⟩:=h.on;exact⟨m,(e j h.lt).trans h1,h2⟩,fun i m h1 h2 h3=>h.last i m h1 h2 ((e i h2).symm.trans h3)⟩
theorem ey6 (C E H I J O:Value) {k:Nat} (Q:k < 6):∃u,[C,E,H,I,J,O][k]?=some u/\(k=0/\u=C\/k=1/\u=E\/k=2/\u=H\/k=3/\u=I\/k=4/\u=J\/k=5/\u=O):=by
 have e:k=0\/k=1\/k=2\/k=3\/k=4\/k=5:=o_
 rcases e with rfl|rfl|rfl|rfl|rfl|rfl<;>simp
theorem pz5 (f:Nat->Value) {k:Nat} (C:k < 6):[f 0,f 1,f 2,f 3,f 4,f 5][k]?=some (f k):=by
 have e:k=0\/k=1\/k=2\/k=3\/k=4\/k=5:=o_
 rcases e with rfl|rfl|rfl|rfl|rfl|rfl<;>rfl
theorem kz41 {P S a oi v} (h:Hv P S a oi v:=by intro w C;skip;go_simp;try (with_reducible rfl)):Hv P S a oi v:=h
theorem kz42 {P S a oi v} (h:Hv P S a oi v:=by intro w C;(obtain⟨⟨y0,y1,y2,y3,y4⟩,x0,x1,x2,x3,x4⟩:=KC.out w C);go_simp;try (with_reducible rfl)):Hv P S a oi v:=h
theorem vx4 (L h:Nat) (ns:List Nd) (x:It) (w:World) (hs:SkAt w L ns) (hk:x.ok=true) (h1:1<=h) (h6:h<=6) (t4:ns.length<=1000000):
  Calls prog 125 #[.pointer (some ⟨L,0,none⟩),x.val,.int .i64 (h:Int)] w (yq2 w L ns (wput (its ns) x)):=by
 have h7:=fun W=>sk1 x W;simp only[hk]at h7;have k4:=fun W (hW:Below w.heap.size w W)=>dx4 L (pos (its ns) x+1) ns x W (hs.below hW) rfl;have n2:=hs.lt;unfold It.val at h7 k4;have A1:(1:Int)<=(h:Int):=o_
 have a2:(h:Int)<=6:=o_
 have h8:((h:Int) < 1)=False:=eq_false o_;have A3:(6 < (h:Int))=False:=eq_false o_;have n4:=b_ w (.cells #[.int .i64 x.s,.int .i64 x.k,.int .u64 (x.t:Int),.int .u64 (x.v:Int),.int .i64 x.x] 49);have O:BoxO (w.alloc (.cells #[.int .i64 x.s,.int .i64 x.k,.int .u64 (x.t:Int),.int .u64 (x.v:Int),.int .i64 x.x] 49)) 49 w.heap.size x.cells:=BoxO.new w #[.int .i64 x.s,.int .i64 x.k,.int .u64 (x.t:Int),.int .u64 (x.v:Int),.int .i64 x.x] 49;generalize hV:w.alloc (.cells #[.int .i64 x.s,.int .i64 x.k,.int .u64 (x.t:Int),.int .u64 (x.v:Int),.int .i64 x.x] 49)=V at *;have b0:=O.cell 0;have b1:=O.cell 1;have b2:=O.cell 2;have b3:=O.cell 3;have b4:=O.cell 4;simp only[It.cells,gE0,gE1]at b0 b1 b2 b3 b4;have n6:=H_ h7;have n7:=H_ k4;have k5:=H_ n4;have n8:=H_ O;have k6:=H_ n2;clear h7 k4 O n4 n2;unfold It.val;go_enter func125,ntmps125;go_wp2_with fail;refine(n6.out _).mono ?_;rintro e w2 ⟨rfl,h8⟩;have a4:=n8.out.below h8;have b0:=a4.cell 0;have b1:=a4.cell 1;have b2:=a4.cell 2;have b3:=a4.cell 3;have b4:=a4.cell 4;simp only[It.cells,gE0,gE1]at b0 b1 b2 b3 b4;have n9:=k5.out.trans (h8.mono k5.out.size);have h9:=H_ n9;have j6:=H_ a4;clear h8 a4 n9 n6 hV k5 n8;go_wp2_with fail;refine(n7.out _ h9.out).mono ?_;rintro e w3 ⟨J,hJ,rfl,k7⟩;have b8:=h9.out.trans (k7.mono h9.out.size);have e6:=j6.out.below k7;have Z:=BoxO.new w3 #[.pointer none,.pointer none,.pointer none,.pointer none,.pointer none,.pointer none] 252;have h':=b8.alloc b8.size (.cells #[.pointer none,.pointer none,.pointer none,.pointer none,.pointer none,.pointer none] 252);have j7:=e6.alloc (.cells #[.pointer none,.pointer none,.pointer none,.pointer none,.pointer none,.pointer none] 252);generalize hU:w3.alloc (.cells #[.pointer none,.pointer none,.pointer none,.pointer none,.pointer none,.pointer none] 252)=U at *;have e7:Chg [w3.heap.size] U ((((((U.setCell ⟨w3.heap.size,0,none⟩ (.pointer (some ⟨bk ns (J 0),0,none⟩))).setCell ⟨w3.heap.size,1,none⟩ (.pointer (some ⟨bk ns (J 1),0,none⟩))).setCell ⟨w3.heap.size,2,none⟩ (.pointer (some ⟨bk ns (J 2),0,none⟩))).setCell ⟨w3.heap.size,3,none⟩ (.pointer (some ⟨bk ns (J 3),0,none⟩))).setCell ⟨w3.heap.size,4,none⟩ (.pointer (some ⟨bk ns (J 4),0,none⟩))).setCell ⟨w3.heap.size,5,none⟩ (.pointer (some ⟨bk ns (J 5),0,none⟩))):=((((((Chg.refl _ U).setCell _ (.inl s_)).setCell _ (.inl s_)).setCell _ (.inl s_)).setCell _ (.inl s_)).setCell _ (.inl s_)).setCell _ (.inl s_);have a5:=(((((Z.store 0 (.pointer (some ⟨bk ns (J 0),0,none⟩))).store 1 (.pointer (some ⟨bk ns (J 1),0,none⟩))).store 2 (.pointer (some ⟨bk ns (J 2),0,none⟩))).store 3 (.pointer (some ⟨bk ns (J 3),0,none⟩))).store 4 (.pointer (some ⟨bk ns (J 4),0,none⟩))).store 5 (.pointer (some ⟨bk ns (J 5),0,none⟩));simp only[aJ_,aD_]at a5;have HP:=H_ a5;have t5:=H_ e7;have o0:=Z.c0;have o1:=Z.c1;have o2:=Z.c2;have o3:=Z.c3;have o4:=Z.c4;have o5:=Z.c5;have f0:=Z.free 0;have f1:=Z.free 1;have f2:=Z.free 2;have f3:=Z.free 3;have f4:=Z.free 4;have f5:=Z.free 5;have n':=hs.below h';have i0:∀g∈skF L ns,g∉[w3.heap.size]:=fun g Q=>by have:=k6.out g Q;have:=b8.size;simp;omega
 have i1:=n'.chg e7 i0;have j8:=j7.chg e7 (by have:=e6.lt;simp;omega);have o6:=h'.trans (e7.below h'.size (fun g Q=>by rw[a_.1 Q];exact b8.size));generalize hY:((((((U.setCell ⟨w3.heap.size,0,none⟩ (.pointer (some ⟨bk ns (J 0),0,none⟩))).setCell ⟨w3.heap.size,1,none⟩ (.pointer (some ⟨bk ns (J 1),0,none⟩))).setCell ⟨w3.heap.size,2,none⟩ (.pointer (some ⟨bk ns (J 2),0,none⟩))).setCell ⟨w3.heap.size,3,none⟩ (.pointer (some ⟨bk ns (J 3),0,none⟩))).setCell ⟨w3.heap.size,4,none⟩ (.pointer (some ⟨bk ns (J 4),0,none⟩))).setCell ⟨w3.heap.size,5,none⟩ (.pointer (some ⟨bk ns (J 5),0,none⟩)))=Y at *;have y0:=a5.c0;obtain⟨n0,k8,j9⟩:=(hJ 0 o_).on;have k9:pos (its ns) x+1<=ns.length:=by
  obtain⟨hd,tl,i2,_⟩:=hs.head;have h1:=cx3 (its ns) x;have h2:(its ns).length+1=ns.length:=by rw[i2];simp[its]
  omega
 have k':=(hJ 0 o_).low k9 hs.tall;obtain⟨n5,⟨nl,nf⟩,nc,A7⟩:=i1.core.look k8 j9;rw[k']at nl;rw[<-mk4 k8]at n5;have A8:(0:Int) < (n0.c:Int):=o_
 have b9:=ej1 n0.tb 0 _ Y nl (by have:=i1.core.ptr 0 (J 0+1);rwa [k']at this);obtain⟨be,l1⟩:=n_ (nxb 0 (ns.drop (pos (its ns) x+1)));rw[<-l1]at b9;have i3:=H_ b9;have o8:=H_ l1;have l2:=H_ i1;have e9:=H_ j8;have l3:=H_ o6;have t7:=H_ b8.size;have o9:=H_ a5;have HJ:=H_ hJ;clear b9 l1 i1 j8 o6 a5 n' e7 HP t5 h' j7 e6 b8 k7 Z k8 j9 k' nl nf i0 hJ h9 j6 n7;simp only[pv];go_wp2_with fail;refine i3.out.mono ?_;rintro e w5 ⟨rfl,rfl⟩;go_upto_region 5 with (fail)
 have e':=o8.out.trans (pz3 hs.tall _);have i4:∀I,ns[pos (its ns) x+1]?=some I->∃hp:pos (its ns) x < (its ns).length,(its ns)[pos (its ns) x]=I.x:=fun I h3=>by
  have:=tk2 (ns:=ns) (pos (its ns) x);rw[h3]at this;obtain⟨a,b⟩:=J_.1 this;exact⟨a,b⟩
 have i5:ns[pos (its ns) x+1]?=none->¬pos (its ns) x < (its ns).length:=fun h3 h4=>by
  have:=tk2 (ns:=ns) (pos (its ns) x);rw[h3,h_ h4]at this
  cases this
 obtain⟨l,hl⟩:=n_ (its ns);have l4:=hs.rises;rw[<-hl]at e' i4 i5 l4;obtain⟨sm,o'⟩:=n_ (l.any (fun y=>It.same y x));obtain⟨o3,l5⟩:=n_ (ns[pos l x+1]?);rw[<-l5]at e' i4 i5;have HL:=H_ hl;have l6:=H_ l5;have f6:=H_ o';have p0:=H_ i4;have p1:=H_ i5;have a6:=H_ l4;have HS:=H_ hs;subst e';clear hl l5 o' i4 i5 l4 hs i3 hY
 go_cut [43] (fun c wx=>c=.bool sm/\Below w5.heap.size w5 wx)
 case first=>
  cases o3 with
  |none=>
   have hf:sm=false:=f6.out.trans (ey2 a6.out x (p1.out rfl));simp only[cx_];refine w_h w5 fun C=>?_;refine w_v 0 C ?_ (k:=kz41);go_simp;refine w_v 1 C ?_ (k:=kz41);go_simp;refine w_v 2 C ?_ (k:=kz41);go_simp;refine wpT0 (i:=3) C ?_;go_simp;refine wpT0 (i:=4) C ?_;go_simp;refine wpT0 (i:=5) C ?_;go_simp;refine wpT0 (i:=6) C ?_;go_simp;refine wpT0 (i:=7) C ?_;go_simp;refine wpT0 (i:=8) C ?_;go_simp;refine w_v 9 C ?_ (k:=kz41);go_simp;refine w_d ?_;go_wp2_with fail
   go_meet
   exact⟨by rw[hf],C⟩
  |some I=>
   obtain⟨hp,f7⟩:=p0.out I rfl;have a':=fun W=>kk2 I.x x W;have c9:=iw3 a6.out x hp;rw[f7]at c9;simp only[c9,<-f6.out]at a';have E:=l2.out.core.node I (t_ (by rw[HL.out]at l6;exact l6.out.symm));generalize I.x=y at *;have f8:∀w',Below w5.heap.size w5 w'->(w'.cell? ⟨I.b,0,none⟩=some (.int .i64 y.s)/\w'.cell? ⟨I.b,1,none⟩=some (.int .i64 y.k)/\w'.cell? ⟨I.b,2,none⟩=some (.int .u64 (y.t:Int))/\w'.cell? ⟨I.b,3,none⟩=some (.int .u64 (y.v:Int))/\w'.cell? ⟨I.b,4,none⟩=some (.int .i64 y.x))/\(w'.cell? ⟨w.heap.size,0,none⟩=some (.int .i64 x.s)/\w'.cell? ⟨w.heap.size,1,none⟩=some (.int .i64 x.k)/\w'.cell? ⟨w.heap.size,2,none⟩=some (.int .u64 (x.t:Int))/\w'.cell? ⟨w.heap.size,3,none⟩=some (.int .u64 (x.v:Int))/\w'.cell? ⟨w.heap.size,4,none⟩=some (.int .i64 x.x)):=fun w' hb=>by
    have e1:=E.below hb;have e2:=e9.out.below hb;exact⟨⟨e1.cell 0,e1.cell 1,e1.cell 2,e1.cell 3,e1.cell 4⟩,e2.cell 0,e2.cell 1,e2.cell 2,e2.cell 3,e2.cell 4⟩
   unfold It.val at a';have t':=H_ a';have KC:=H_ f8;clear a' f8 E c9 f7 hp;simp only[a3_];refine w_h w5 fun C=>?_;refine w_v 0 C ?_ (k:=kz42);go_simp;refine w_v 1 C ?_ (k:=kz42);go_simp;refine w_v 2 C ?_ (k:=kz42);go_simp;refine w_v 3 C ?_ (k:=kz42);go_simp;refine w_v 4 C ?_ (k:=kz42);go_simp;refine w_v 5 C ?_ (k:=kz42);go_simp;refine w_v 6 C ?_ (k:=kz42);go_simp;refine w_v 7 C ?_ (k:=kz42);go_simp;refine w_r 8 fun K hK=>?_;go_simp
   with_reducible refine(t'.out _).mono ?_
   rintro e w6 ⟨rfl,a2⟩;go_simp;refine hK.out _ _ (C.trans (a2.mono C.size)) ?_;clear C hK K;intro C;go_simp;refine w_v 9 C ?_ (k:=kz42);go_simp;refine w_d ?_;go_wp2_with fail
   go_meet
   exact⟨rfl,C⟩
 case rest=>
  obtain⟨rfl,f9⟩:=hcut;have f':=l2.out.below f9;have a0:=e9.out.below f9;have i6:=l3.out.trans (f9.mono l3.out.size);have b0:=a0.cell 0;have b1:=a0.cell 1;have b2:=a0.cell 2;have b3:=a0.cell 3;have b4:=a0.cell 4;simp only[It.cells,gE0,gE1]at b0 b1 b2 b3 b4;have g2:=o9.out.below f9;clear o8 y0 n5 f9 l2 e9 l3 o9
  cases sm with
  |true=>
   obtain⟨I,rfl⟩:∃I,o3=some I:=by
    cases o3 with
    |none=>have:=f6.out.trans (ey2 a6.out x (p1.out rfl));cases this
    |some I=>exact⟨I,rfl⟩
   obtain⟨hp,f7⟩:=p0.out I rfl;have a':It.same l[pos l x] x=true:=(iw3 a6.out x hp).trans f6.out.symm;obtain⟨a7,a8⟩:=eq3 a6.out x hp a';rw[f7]at a7;have l7:=l6.out.symm;have E:=f'.core.node I (t_ l7);have g4:=fun W=>fk2 x I.x W;obtain⟨y,hy⟩:=n_ I.x;rw[<-hy]at g4 E a7;have f8:∀w',Below wc.heap.size wc w'->(w'.cell? ⟨I.b,0,none⟩=some (.int .i64 y.s)/\w'.cell? ⟨I.b,1,none⟩=some (.int .i64 y.k)/\w'.cell? ⟨I.b,2,none⟩=some (.int .u64 (y.t:Int))/\w'.cell? ⟨I.b,3,none⟩=some (.int .u64 (y.v:Int))/\w'.cell? ⟨I.b,4,none⟩=some (.int .i64 y.x))/\(w'.cell? ⟨w.heap.size,0,none⟩=some (.int .i64 x.s)/\w'.cell? ⟨w.heap.size,1,none⟩=some (.int .i64 x.k)/\w'.cell? ⟨w.heap.size,2,none⟩=some (.int .u64 (x.t:Int))/\w'.cell? ⟨w.heap.size,3,none⟩=some (.int .u64 (x.v:Int))/\w'.cell? ⟨w.heap.size,4,none⟩=some (.int .i64 x.x)):=fun w' hb=>by
    have e1:=E.below hb;have e2:=a0.below hb;exact⟨⟨e1.cell 0,e1.cell 1,e1.cell 2,e1.cell 3,e1.cell 4⟩,e2.cell 0,e2.cell 1,e2.cell 2,e2.cell 3,e2.cell 4⟩
   unfold It.val at g4;obtain⟨wb,p4⟩:=n_ (x.wins y);rw[<-p4]at g4 a7;have p6:=H_ g4;have KC:=H_ f8;have p7:=H_ l7;have u4:=H_ E;have d6:=H_ f';have i7:=H_ a7;have i8:=H_ a8;have d7:=H_ i6;have p8:=H_ a0;have HY:=H_ hy;clear g4 f8 l7 E f' a7 a8 i6 a0 hy g2 a' f7 hp p4 b0 b1 b2 b3 b4;simp only[a3_];go_upto_region 6 with (fail)
   refine w_h wc fun C=>?_;refine w_v 0 C ?_ (k:=kz42);go_simp;refine w_v 1 C ?_ (k:=kz42);go_simp;refine w_v 2 C ?_ (k:=kz42);go_simp;refine w_v 3 C ?_ (k:=kz42);go_simp;refine w_v 4 C ?_ (k:=kz42);go_simp;refine w_r 5 fun K hK=>?_;go_simp
   with_reducible refine(p6.out _).mono ?_
   rintro e w6 ⟨rfl,a2⟩;go_simp;refine hK.out _ _ (C.trans (a2.mono C.size)) ?_;clear C hK K;intro C;go_simp;refine w_v 6 C ?_ (k:=kz42);go_simp;refine w_d ?_;have b5:=C;clear C KC p6;obtain⟨X,p9⟩:=n_ w6;rw[<-p9]at b5 ⊢;clear p9 a2;have E:=u4.out.below b5;have i9:=d6.out.below b5;have O:=p8.out.below b5;have i':=d7.out.trans (b5.mono d7.out.size)
   cases wb with
   |false=>
    have hR:wput l x=l:=by unfold wput;rw[if_pos];rw[i7.out];rfl
    have HF:=H_ (show yq2 w L ns (wput l x) (.returned (.tuple #[.bool false,.int .i64 0])) X from ⟨false,ns,rfl,i9,by rw[hR];exact HL.out.symm,Chg.of_below i' _,fun g Q=>.inl Q⟩);clear hR i9 O i' E b5;go_wp2;go_ret2;rw[<-HL.out];exact HF.out
   |true=>
    have e0:=O.cell 0;have e1:=O.cell 1;have e2:=O.cell 2;have e3:=O.cell 3;have e4:=O.cell 4;have d0:=E.cell 0;have d1:=E.cell 1;have d2:=E.cell 2;have d3:=E.cell 3;have d4:=E.cell 4;have q0:=E.free 0;have q1:=E.free 1;have q2:=E.free 2;have q3:=E.free 3;have q4:=E.free 4;have b6:=((((E.store 0 (.int .i64 x.s)).store 1 (.int .i64 x.k)).store 2 (.int .u64 (x.t:Int))).store 3 (.int .u64 (x.v:Int))).store 4 (.int .i64 x.x);simp only[It.cells,T_,C_,gE0,gE1,aJ_,aD_]at e0 e1 e2 e3 e4 d0 d1 d2 d3 d4 b6;have l8:Chg [I.b] X (((((X.setCell ⟨I.b,0,none⟩ (.int .i64 x.s)).setCell ⟨I.b,1,none⟩ (.int .i64 x.k)).setCell ⟨I.b,2,none⟩ (.int .u64 (x.t:Int))).setCell ⟨I.b,3,none⟩ (.int .u64 (x.v:Int))).setCell ⟨I.b,4,none⟩ (.int .i64 x.x)):=(((((Chg.refl _ X).setCell _ (.inl s_)).setCell _ (.inl s_)).setCell _ (.inl s_)).setCell _ (.inl s_)).setCell _ (.inl s_);have hR:wput l x=l.set (pos l x) x:=by
     unfold wput;rw[if_neg (by rw[i7.out];simp)];exact i8.out
    obtain⟨z1,z2,z3⟩:=i9.setx (x:=x) (k:=pos l x) p7.out (by rw[<-HL.out,<-i8.out];exact nz1 a6.out) l8 b6;rw[<-HL.out,<-hR]at z2;have hF:Chg (skF L ns) w _:=(Chg.of_below i' (skF L ns)).trans l8 (fun g Q=>.inl (by
     rw[a_.1 Q];exact e_ _ (ac_.2 ⟨I,t_ p7.out,by simp⟩)))
    have HF:=H_ (show yq2 w L ns (wput l x) (.returned (.tuple #[.bool true,.int .i64 0])) _ from ⟨true,_,rfl,z1,z2,hF,fun g Q=>.inl (by rw[z3]at Q;exact Q)⟩);clear hR i9 O i' E b5 b6 l8 z1 z2 z3 hF;go_wp2;go_ret2;rw[<-HL.out];exact HF.out
  |false=>
   obtain⟨a7,a8⟩:=xj3 a6.out x f6.out.symm;have y9:pos l x+1<=ns.length:=by rw[HL.out];exact k9
   have ht:=fun W=>zy2 x h W h1 h6;unfold It.val at ht;have HT:=H_ ht;have d6:=H_ f';have i7:=H_ a7;have i8:=H_ a8;have d7:=H_ i6;have g6:=H_ g2;clear ht f' a7 a8 i6 a0 g2 k9;go_wp2_with fail;refine(HT.out _).mono ?_;rintro e w6 ⟨b,tb,rfl,k0,p',q6,a5,q7,a2⟩;obtain⟨A,hA⟩:=n_ (ns.take (pos l x+1));obtain⟨R,hR⟩:=n_ (ns.drop (pos l x+1));have j0:A++R=ns:=by rw[hA,hR];exact al_ _ _
   have l9:A.length=pos l x+1:=by rw[hA,v_];omega
   have q9:=d7.out.size;have j1:∀g∈skF L ns,g < w.heap.size:=k6.out;have b7:∀g,wc.heap.size<=g->g∉(A++R).flatMap fun n=>[n.b,n.tb]:=fun g Q hm=>by
    rw[j0]at hm;have:=j1 g (e_ _ hm);omega
   have q':SkC w6 (A++(⟨x,b,tb,0,h⟩:Nd)::R):=SkC.insert (n:=⟨x,b,tb,0,h⟩) (by rw[j0];exact d6.out.core.below a2) rfl h6 k0 p' q6 (b7 b a5) (b7 tb q7);have i0:=(g6.out.lt:w3.heap.size < wc.heap.size);have k1:=g6.out.below a2;obtain⟨hd,tl,i2,r0,r3⟩:=d6.out.head;have k2:=r3.below a2;have r4:=d7.out.trans (a2.mono q9);have r5:w.heap.size<=w3.heap.size:=t7.out;obtain⟨F,hF⟩:=n_ (tb::ns.flatMap (fun n=>[n.b,n.tb]));have r6:w3.heap.size∉F:=by
    rw[hF];intro hm
    rcases f_.1 hm with h2|h2
    ·omega
    ·have:=j1 _ (e_ _ h2)
     omega
   have r7:L∉F:=by
    rw[hF];intro hm
    rcases f_.1 hm with h2|h2
    ·have:=j1 L i_
     omega
    ·exact d6.out.out h2
   have u8:=H_ q';have u9:=H_ k1;have a9:=H_ j0;have l':=H_ l9;have j2:=H_ (c_ i2 r0);have u':=H_ k2;have v1:=H_ r4;have HF:=H_ hF;have r8:=H_ r6;have v2:=H_ r7;have j3:=H_ (show w.heap.size<=tb/\w.heap.size<=b from ⟨o_,o_⟩);have j4:=H_ (show ∀k,k < 6->Pred ns k A.length (J k) from fun k hk=>by rw[l9,HL.out];exact HJ.out k hk);clear q' k1 j0 l9 i2 r0 k2 r3 r4 hA hR a2 q9 j1 b7 i0 r5 a5 q7 p' k0 q6 hF r6 r7 HJ d6 g6 d7 HT;go_wp2_with fail
   go_loopw [60] (fun s wr=>∃k:Nat,k<=h/\s=.int .i64 (k:Int)/\Hid (SkC wr (A++(⟨x,b,tb,k,h⟩:Nd)::R)/\Chg F w6 wr)) (fun s _=>h - (intOf s).toNat)
   case atStart=>exact⟨0,w_ _,rfl,H_ ⟨u8.out,Chg.refl _ _⟩⟩
   case round=>
    obtain⟨k,B3,rfl,HK⟩:=hrel
    by_cases v3:k < h
    ·have v4:(k:Int) < (h:Int):=o_
     have d8:k < 6:=o_
     have z4:(k:Int) < 6:=o_
     have B4:IntKind.i64.wrap (k:Int)=(k:Int):=D_ _ o_;obtain⟨p,hp,v5⟩:=(j4.out k d8).on;have m0:bk ns (J k)=p.b:=mk4 hp;have d9:(A++(⟨x,b,tb,k,h⟩:Nd)::R)[J k]?=some p:=by
      have h2:=(j4.out k d8).lt;rw[<-a9.out,O_ h2]at hp;rw[O_ h2];exact hp
     have d':(A++(⟨x,b,tb,k,h⟩:Nd)::R)[A.length]?=some ⟨x,b,tb,k,h⟩:=by simp
     have r9:=HK.out.1;have H:SkC wr.drew (A++(⟨x,b,tb,k,h⟩:Nd)::R):=r9.chg (F:=[]) (Chg.refl _ wr).drew (fun _ _=>by simp);obtain⟨p5,⟨pl,pf⟩,pc,v6⟩:=H.look d9 v5;have b7:=H.node _ (t_ d');have n5:=b7.cell 5;simp only[It.cells,T_,C_,gE0,gE1]at n5;obtain⟨cs,t1,t2,_⟩:=H.tower _ _ d';have tk:=t1.cell k;rw[h_ (by simp only at t2;omega)]at tk;have tf:=t1.free k;have g8:=(u9.out.chg HK.out.2 r8.out).drew;have v9:wr.drew.cell? ⟨w3.heap.size,k,none⟩=some (.pointer (some ⟨p.b,0,none⟩)):=by
      rw[g8.cell,pz5 (fun l=>Value.pointer (some ⟨bk ns (J l),0,none⟩)) d8,m0]
     have m1:=tx1 _ _ _ _ _ H.apart d9 d';have a8:p.tb≠tb:=fun e=>by
      have:=m1.2.1 e;have:=(j4.out k d8).lt;omega
     have hr:=H.raise (l:=k) rfl v3 ((a9.out▸j4.out k d8:Pred (A++R) k A.length (J k)).insert rfl) d9;have b9:=ej1 p.tb k _ wr.drew pl (H.ptr k _);generalize hv:(nxb k ((A++(⟨x,b,tb,k,h⟩:Nd)::R).drop (J k+1))).map (fun b=>(⟨b,0,none⟩:Addr))=v at *;have r':cz4 wr.drew v:=by rw[<-hv];exact H.ptr k _
     have s0:=dw2 tb k _ v wr.drew tk tf r';have g7:=xw wr.drew ⟨tb,k,none⟩ (.pointer v);have k3:w3.heap.size∉[tb]:=fun e=>r8.out (by rw[a_.1 e,HF.out];simp);have s1:(wr.drew.setCell ⟨tb,k,none⟩ (.pointer v)).cell? ⟨w3.heap.size,k,none⟩=some (.pointer (some ⟨p.b,0,none⟩)):=by
      rw[(g8.chg g7 k3).cell,pz5 (fun l=>Value.pointer (some ⟨bk ns (J l),0,none⟩)) d8,m0]
     have s2:p.b∉[tb]:=fun e=>m1.2.2 (a_.1 e);have s3:=((H.node p (t_ d9)).chg g7 s2).cell 5;simp only[It.cells,T_,C_,gE0,gE1]at s3;obtain⟨cp,u1,u2,_⟩:=H.tower _ _ d9;have u3:=u1.chg g7 (fun e=>a8 (a_.1 e));have uk:=u3.cell k;rw[h_ o_]at uk;have uf:=u3.free k;have s4:b∉[tb]:=fun e=>(tx1 _ _ _ _ _ H.apart d' d').2.2 (a_.1 e);have s5:=dw2 p.tb k _ (some ⟨b,0,none⟩) _ uk uf ⟨b,_,rfl,b7.chg g7 s4,rfl⟩;have B8:(k:Int) < (p.c:Int):=o_
     have s6:Chg F w6 ((wr.drew.setCell ⟨tb,k,none⟩ (.pointer v)).setCell ⟨p.tb,k,none⟩ (.pointer (some ⟨b,0,none⟩))):=(HK.out.2.drew.setCell _ (.inl (by rw[HF.out];simp))).setCell _ (.inl (by rw[HF.out];exact e_ _ (ac_.2 ⟨p,t_ hp,by simp⟩)));have i3:=H_ b9;have w4:=H_ s0;have x5:=H_ s5;have x6:=H_ (c_ hr s6);have q5:wr.cell? ⟨b,5,none⟩=_:=n5;have z':(wr.setCell ⟨tb,k,none⟩ (.pointer v)).cell? ⟨w3.heap.size,k,none⟩=_:=s1;have B9:(wr.setCell ⟨tb,k,none⟩ (.pointer v)).cell? ⟨p.b,5,none⟩=_:=s3;have q8:wr.cell? ⟨w3.heap.size,k,none⟩=_:=v9;have qp:wr.cell? ⟨p.b,5,none⟩=_:=p5;clear b9 s0 s5 hr s6 r9 H b7 t1 t2 tk tf g8 m1 a8 r' g7 k3 s2 u1 u2 u3 uk uf s4 pl pf v6 hv HK d9 d' hp m0;go_wp2_with fail
     go_region_with (first
      |(go_at_call 186;refine i3.out.mono ?_;rintro e w7 ⟨rfl,rfl⟩)
      |(go_at_call 187;refine w4.out.mono ?_;rintro e w8 ⟨rfl,rfl⟩))
     all_goals
      go_wp2_with fail;refine x5.out.mono ?_;rintro e w9 ⟨rfl,rfl⟩;go_wp2;go_roundw
      case rel=>exact⟨k+1,o_,by go_num,H_ x6.out⟩
      case measure=>simp[intOf];omega
    ·have x7:k=h:=o_
     subst x7;have v4:((k:Int) < (k:Int))=False:=eq_false o_;have m2:=HK.out.2;have g9:=u'.out.chg m2 v2.out;have g0:=g9.c0;have g1:=g9.c1;have z0:=g9.free 1;have B':tl.length < 1000000:=by have:=j2.out.1;rw[this,q_]at t4;omega
     have C0:IntKind.i64.wrap ((tl.length:Int)+1)=((tl.length+1:Nat):Int):=by rw[D_ _ o_];omega
     have b6:=g9.store 1 (.int .i64 ((tl.length+1:Nat):Int));have j5:=xw wr ⟨L,1,none⟩ (.int .i64 ((tl.length+1:Nat):Int));simp only[aJ_,aD_]at b6 j5;have m3:∀g∈(A++(⟨x,b,tb,k,k⟩:Nd)::R).flatMap (fun n=>[n.b,n.tb]),g∈ns.flatMap (fun n=>[n.b,n.tb])\/g=b\/g=tb:=fun g Q=>by
      rw[<-a9.out];obtain⟨m,hm,Q⟩:=ac_.1 Q
      rcases k_.1 hm with h2|h2
      ·exact .inl (ac_.2 ⟨m,x_ _ h2,Q⟩)
      ·rcases f_.1 h2 with rfl|h2
       ·right;simpa using Q
       ·exact .inl (ac_.2 ⟨m,p_ _ h2,Q⟩)
     have m4:L∉(A++(⟨x,b,tb,k,k⟩:Nd)::R).flatMap (fun n=>[n.b,n.tb]):=fun hm=>by
      have h3:=k6.out L i_;have h4:=j3.out
      rcases m3 L hm with h2|h2|h2
      ·exact HS.out.out h2
      ·omega
      ·omega
     have s7:=HK.out.1.chg j5 (fun g Q e=>m4 (by rw[<-a_.1 e];exact Q));have m5:A=hd::tl.take (pos l x):=by
      have h2:=l'.out;have h3:=a9.out;rw[j2.out.1]at h3
      cases A with
      |nil=>simp at h2
      |cons a A=>
       simp only[T_,List.cons.injEq]at h3;simp only[q_,Nat.add_right_cancel_iff]at h2;rw[<-h3.2,<-h2,cy_,h3.1]
     have g':its (A++(⟨x,b,tb,k,k⟩:Nd)::R)=put l x:=by
      rw[fj4 (by rw[l'.out];omega),a9.out,l'.out,<-HL.out,i8.out];rfl
     have c9:SkAt (wr.setCell ⟨L,1,none⟩ (.int .i64 ((tl.length+1:Nat):Int))) L (A++(⟨x,b,tb,k,k⟩:Nd)::R):=by
      refine⟨s7,⟨hd,tl.take (pos l x)++(⟨x,b,tb,k,k⟩:Nd)::R,by rw[m5];rfl,j2.out.2,?_⟩,m4,fun m hm=>?_,by rw[g'];exact nz1 a6.out⟩
      ·have h2:(tl.take (pos l x)++(⟨x,b,tb,k,k⟩:Nd)::R).length=tl.length+1:=by
        have h3:=congrArg List.length a9.out;rw[m5,j2.out.1]at h3;simp only[d_,q_,T_]at h3 ⊢;omega
       rw[h2];exact b6
      ·rcases k_.1 hm with h2|h2
       ·exact HS.out.tall m (by rw[<-a9.out];exact x_ _ h2)
       ·rcases f_.1 h2 with rfl|h2
        ·exact h1
        ·exact HS.out.tall m (by rw[<-a9.out];exact p_ _ h2)
     have hR:wput l x=put l x:=by unfold wput;rw[if_neg (by rw[i7.out];simp)]
     have s8:Chg (skF L ns) w (wr.setCell ⟨L,1,none⟩ (.int .i64 ((tl.length+1:Nat):Int))):=by
      refine((Chg.of_below v1.out (skF L ns)).trans m2 (fun g Q=>?_)).trans j5 (fun g Q=>.inl (by rw[a_.1 Q];exact i_));rw[HF.out]at Q
      rcases f_.1 Q with rfl|Q
      ·exact .inr j3.out.1
      ·exact .inl (e_ _ Q)
     have x8:=H_ (show yq2 w L ns (wput l x) (.returned (.tuple #[.bool true,.int .i64 0])) (wr.setCell ⟨L,1,none⟩ (.int .i64 ((tl.length+1:Nat):Int))) from ⟨true,_,rfl,c9,by rw[hR];exact g',s8,fun g Q=>by
      rcases f_.1 Q with rfl|Q
      ·exact .inl i_
      ·rcases m3 g Q with h2|h2|h2
       ·exact .inl (e_ _ h2)
       ·exact .inr (by rw[h2];exact j3.out.2)
       ·exact .inr (by rw[h2];exact j3.out.1)⟩)
     clear b6 j5 m3 m4 s7 m5 g' c9 hR s8 g9 m2;go_wp2;go_ret2;rw[<-HL.out];exact x8.out
section
end
section
end
section
end
end Go.Proofs.YtkdbagdiplpcfaaGreatDoor
