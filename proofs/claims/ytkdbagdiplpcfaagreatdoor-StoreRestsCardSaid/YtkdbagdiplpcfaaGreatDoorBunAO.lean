/- Some of the texts. No conditions. -/
import Derived.Test.YtkdbagdiplpcfaaGreatDoorBunAM
import Derived.Test.YtkdbagdiplpcfaaGreatDoorBunAN
import Derived.Test.YtkdbagdiplpcfaaGreatDoorBunAL

set_option linter.unusedSimpArgs false
set_option linter.unusedVariables false
set_option maxRecDepth 100000
set_option maxHeartbeats 16000000
namespace Go.Proofs.YtkdbagdiplpcfaaGreatDoor
open Go.Proofs.Tryz Go Go.RowKit Go.Lib Go.Shelf
theorem bq4 (n:Nat) (I:n < 18446744073709551616):
  bits .xor .i64 ((n:Int) / 2) (wrap64 (-(wrap64 (bits .and .u64 (n:Int) 1))))=qy1 n:=by
 have h1:bits .and .u64 (n:Int) 1=((n % 2:Nat):Int):=by
  have:=fw4 (BitVec.ofNat 64 n) (BitVec.ofNat 64 1);rw[BitVec.toNat_ofNat,BitVec.toNat_ofNat,aB_ I,BitVec.toNat_and,BitVec.toNat_ofNat,BitVec.toNat_ofNat,aB_ I]at this;rw[show (1:Int)=((1 % 2 ^ 64:Nat):Int) from rfl,this]
  congr 1
  exact Nat.and_one_is_mod n
 have h2:∀a b:Int,bits .xor .i64 a b=IntKind.i64.wrap ((BitVec.ofInt 64 a ^^^ BitVec.ofInt 64 b).toNat:Int):=fun _ _=>rfl;rw[h1,h2];unfold qy1;rw[IntKind.wrap_i64]
 rcases Nat.mod_two_eq_zero_or_one n with C|C
 ·have E:wrap64 (-(wrap64 ((0:Nat):Int)))=0:=by simp[wrap64]
  have H:(n:Int) / 2=((n / 2:Nat):Int):=o_
  rw[if_pos C,C,E,H,show BitVec.ofInt 64 0=0#64 from rfl,BitVec.xor_zero,BitVec.ofInt_natCast,BitVec.toNat_ofNat];omega
 ·have E:wrap64 (-(wrap64 ((1:Nat):Int)))=-1:=by simp[wrap64]
  have H:(n:Int) / 2=((n / 2:Nat):Int):=o_
  rw[if_neg o_,C,E,H,show BitVec.ofInt 64 (-1)=BitVec.allOnes 64 from by decide,BitVec.xor_allOnes,BitVec.toNat_not,BitVec.ofInt_natCast,BitVec.toNat_ofNat];omega
theorem ex4 (n:Nat) (C:n < 18446744073709551616) (w:World):
  Calls prog 273 #[.int .u64 (n:Int)] w fun e w'=>e=.returned (.int .i64 (qy1 n))/\w'=w:=by
 have E:=H_ (bq4 n C);go_enter func273,ntmps273;go_wp2;rw[E.out];go_ret;exact⟨rfl,rfl⟩
def yj5 (B0 N:Nat) (w:World) (R:It×List UInt8×Nat) (e:Ending) (w':World):Prop:=∃A' n' c',e=.returned (.tuple #[R.1.val,.slice A' n' c',.int .i64 (R.2.2:Int)])/\Row B0 w A' n' 1 (bts R.2.1)/\n'<=N/\n'<=c'/\c'<=maxLen/\Below w.heap.size w w'
def a3 (ns:List Nat):List Value:=[.int .u64 (ns.getD 0 0:Nat),.int .u64 (ns.getD 1 0:Nat),.int .u64 (ns.getD 2 0:Nat)]
theorem zw5 (ns:List Nat) (x:Nat) (h:ns.length < 3):(a3 ns).set ns.length (.int .u64 (x:Int))=a3 (ns++[x]):=by
 match ns,h with
 |[],_=>rfl
 |[a],_=>rfl
 |[a,b],_=>rfl
theorem zy5 {w:World} {g:Nat} {cs:List Value} (x:It) (h:BoxO w 49 g cs) (J:cs.length=5):BoxO (((((w.setCell ⟨g,0,none⟩ (.int .i64 x.s)).setCell ⟨g,1,none⟩ (.int .i64 x.k)).setCell ⟨g,2,none⟩ (.int .u64 (x.t:Int))).setCell ⟨g,3,none⟩ (.int .u64 (x.v:Int))).setCell ⟨g,4,none⟩ (.int .i64 x.x)) 49 g x.cells/\Chg [g] w (((((w.setCell ⟨g,0,none⟩ (.int .i64 x.s)).setCell ⟨g,1,none⟩ (.int .i64 x.k)).setCell ⟨g,2,none⟩ (.int .u64 (x.t:Int))).setCell ⟨g,3,none⟩ (.int .u64 (x.v:Int))).setCell ⟨g,4,none⟩ (.int .i64 x.x)):=by
 obtain⟨C,E,H,a3,I,rfl⟩:∃C E H a3 I,cs=[C,E,H,a3,I]:=by
  match cs,J with
  |[C,E,H,a3,I],_=>exact⟨_,_,_,_,_,rfl⟩
 exact⟨((((h.store 0 _).store 1 _).store 2 _).store 3 _).store 4 _,(((((Chg.refl _ w).setCell _ (.inl s_)).setCell _ (.inl s_)).setCell _ (.inl s_)).setCell _ (.inl s_)).setCell _ (.inl s_)⟩
theorem jk2 {w:World} {g:Nat} {cs:List Value} (h:BoxO w 49 g cs) (J:cs.length=5):∃C E H a3 I,w.cell? ⟨g,0,none⟩=some C/\w.cell? ⟨g,1,none⟩=some E/\w.cell? ⟨g,2,none⟩=some H/\w.cell? ⟨g,3,none⟩=some a3/\w.cell? ⟨g,4,none⟩=some I:=by
 match cs,J with
 |[C,E,H,a3,I],_=>exact⟨C,E,H,a3,I,h.cell 0,h.cell 1,h.cell 2,h.cell 3,h.cell 4⟩
theorem eq6 {w:World} {g k:Nat} {cs:List Value} (h:BoxO w 341 g cs) (C:cs.length=3) (E:k < 3):∃u,w.cell? ⟨g,k,none⟩=some u:=by
 rw[h.cell];exact⟨_,h_ o_⟩
theorem nq5:∀{k:Nat} {b:List UInt8} {ns:List Nat} {r:List UInt8},It.tks k b=some (ns,r)->∀n∈ns,n < 18446744073709551616
 |0,b,ns,r,h=>by
  obtain⟨rfl,_⟩:=It.uk1 h;simp
 |k+1,b,ns,r,h=>by
  obtain⟨ms,q,h1,_,rfl,_⟩:=It.ly1 (n:=0) (q:=[]) h;intro n C
  rcases k_.1 C with h2|h2
  ·exact nq5 h1 n h2
  ·rw[a_.1 h2]
   exact Pn.mv4 q
theorem ww5 {b:List UInt8} {ns:List Nat} {r:List UInt8} (h:It.tks 3 b=some (ns,r)):ns.getD 2 0 < 18446744073709551616:=by
 have h1:=It.xj1 h;have h2:2 < ns.length:=o_
 rw[B_,h_ h2];exact nq5 h _ (u_ h2)
theorem kz26 {P S a oi v} (h:Hv P S a oi v:=by intro w C;(obtain⟨d0,d1⟩:=KC.out w C.1);go_simp;try (with_reducible rfl)):Hv P S a oi v:=h
theorem kz27 {P S a oi v} (h:Hv P S a oi v:=by intro w C;skip;go_simp;try (with_reducible rfl)):Hv P S a oi v:=h
theorem kz28 {P S a oi v} (h:Hv P S a oi v:=by intro w C;(obtain⟨d0,d1,d2⟩:=KZ.out w C.1);go_simp;try (with_reducible rfl)):Hv P S a oi v:=h
theorem one_any (A:Option Addr) (N c:Nat) (b:List UInt8) (w:World) (hN:N<=1000000) (l4:N<=c) (l5:c<=maxLen) (B0:Nat) (f5:B0<=w.heap.size) (f6:Row B0 w A N 1 (bts b)):
  Calls prog 238 #[.slice A N c] w (yj5 B0 N w (It.take1 b)):=by
 have hr:=f6.up f5;have l6:=hr.zk;have hU:=b_ w (.cells #[.int .i64 0,.int .i64 0,.int .u64 0,.int .u64 0,.int .i64 0] 49);have J:BoxO (w.alloc (.cells #[.int .i64 0,.int .i64 0,.int .u64 0,.int .u64 0,.int .i64 0] 49)) 49 w.heap.size [.int .i64 0,.int .i64 0,.int .u64 0,.int .u64 0,.int .i64 0]:=BoxO.new w _ 49
 by_cases h2:b.length < 2
 ·have i2:(N:Int) < 2:=o_
  have hR:It.take1 b=(It.bq2,[],4):=by rw[It.vy2,if_pos h2]
  rw[hR];have c0:=J.c0;have c1:=J.c1;have c2:=J.c2;have c3:=J.c3;have c4:=J.c4;have f0:=J.free 0;have f1:=J.free 1;have f2:=J.free 2;have f3:=J.free 3;have f4:=J.free 4;have HB:=H_ hU;clear J hU hR;go_enter func238,ntmps238;go_wp2;refine bodyPost_ret (v:=.tuple #[It.bq2.val,.slice none 0 0,.int .i64 4]) (by simp[results,go_sem,It.val,It.bq2, *]) rfl ⟨none,0,0,rfl,Row.nil_,o_,o_,o_,?_⟩;exact HB.out
 ·have i2:((N:Int) < 2)=False:=eq_false o_
  obtain⟨p,f8,hA,c',d0⟩:=hr.bt (k:=0) o_;obtain⟨p',f9,a9,_,d1⟩:=hr.bt (k:=1) o_;rw[hA]at a9;injection a9 with a9;subst a9 hA;have d3:Fr.u b 0=(b[0]).toNat:=by simp[Fr.u,B_,h_ f8]
  have d4:Fr.u b 1=(b[1]).toNat:=by simp[Fr.u,B_,h_ f9]
  rw[<-d3]at d0;rw[<-d4]at d1;obtain⟨s,hs⟩:=n_ (Fr.u b 0);obtain⟨kd,a'⟩:=n_ (Fr.u b 1);rw[<-hs]at d0;rw[<-a']at d1;have l8:s < 256:=by rw[hs,d3];exact(b[0]).toNat_lt
  have l9:kd < 256:=by rw[a',d4];exact(b[1]).toNat_lt
  have l':IntKind.i64.wrap (s:Int)=(s:Int):=D_ _ o_;have m0:IntKind.i64.wrap (kd:Int)=(kd:Int):=D_ _ o_;rw[show p.add 0=p from rfl]at d0;rw[show p.add 1=⟨p.block,p.off+1,none⟩ from rfl]at d1;have d5:∀w',Chg [w.heap.size] (w.alloc (.cells #[.int .i64 0,.int .i64 0,.int .u64 0,.int .u64 0,.int .i64 0] 49)) w'->w'.cell? p=some (.int .u8 (s:Int))/\w'.cell? ⟨p.block,p.off+1,none⟩=some (.int .u8 (kd:Int)):=fun w' hc=>by
   have hb:=hU.trans (hc.below hU.size (fun g hg=>by rw[a_.1 hg];exact y_ _));exact⟨(hb.cell (p:=p) c').trans d0,(hb.cell (p:=⟨p.block,p.off+1,none⟩) c').trans d1⟩
  have b0:=bv2 hr (s:=2) o_ (A':=some (p.add 2)) (fun _=>rfl);obtain⟨V,hV⟩:=n_ (w.alloc (.cells #[.int .i64 0,.int .i64 0,.int .u64 0,.int .u64 0,.int .i64 0] 49));rw[<-hV]at d5 hU J;have KC:=H_ d5;have HU:=H_ hU;have b1:=H_ J;have HS:=H_ (c_ hs a');have HR:=H_ f6;have i5:=hV.symm;obtain⟨A2,i6⟩:∃A2,(if c=2 then some p else some ⟨p.block,p.off+2,none⟩)=A2:=⟨_,rfl⟩;have m1:2<=c:=o_
  have m2:0 < N:=o_
  have m3:1 < N:=o_
  have k1:(0:Int) < (N:Int):=o_
  have k2:(1:Int) < (N:Int):=o_
  have i7:2<=N:=o_
  have k3:(2:Int)<=(N:Int):=o_
  clear d5 hU J hs a' hr hV b0 d0 d1 d3 d4;go_enter func238,ntmps238;go_wp2_with fail;refine wp_region_held_drew (S:=fun w'=>Chg [w.heap.size] V w'/\∃cs:List Value,cs.length=5/\BoxO w' 49 w.heap.size cs) rfl ⟨(Chg.refl _ V).drew,_,rfl,b1.out.drew⟩ (fun C=>?_);refine w_v 0 C ?_ (k:=kz26);go_simp;refine w_v 1 C ?_ (k:=kz26);go_simp;refine w_v 2 C ?_ (k:=kz26);go_simp;refine w_v 3 C ?_ (k:=kz26);go_simp;refine w_v 4 C ?_ (k:=kz26);go_simp;refine w_v 5 C ?_ (k:=kz26);go_simp;refine w_v 6 C ?_ (k:=kz26);go_simp;refine w_v 7 C ?_ (k:=kz26);go_simp;refine w_v 8 C ?_ (k:=kz26);go_simp;refine w_r 9 fun K U=>?_
  (obtain⟨cs,I,E⟩:=C.2;obtain⟨_,_,_,_,_,q0,q1,q2,q3,q4⟩:=jk2 E I;have z0:=E.free 0)
  go_simp;refine U.out _ _ ⟨C.1.setCell _ (.inl s_),_,by rw[aE_];exact I,E.store 0 _⟩ ?_;clear C U K;intro C;go_simp;refine w_v 10 C ?_ (k:=kz26);go_simp;refine w_r 11 fun K U=>?_
  (obtain⟨cs,I,E⟩:=C.2;obtain⟨_,_,_,_,_,q0,q1,q2,q3,q4⟩:=jk2 E I;have z0:=E.free 1)
  go_simp;refine U.out _ _ ⟨C.1.setCell _ (.inl s_),_,by rw[aE_];exact I,E.store 1 _⟩ ?_;clear C U K;intro C;go_simp;refine w_d ?_;clear C KC;have b2:BoxO ((V.setCell ⟨w.heap.size,0,none⟩ (.int .i64 (s:Int))).setCell ⟨w.heap.size,1,none⟩ (.int .i64 (kd:Int))).drew 49 w.heap.size [.int .i64 (s:Int),.int .i64 (kd:Int),.int .u64 0,.int .u64 0,.int .i64 0]:=((b1.out.store 0 _).store 1 _).drew;have d7:Chg [w.heap.size] V ((V.setCell ⟨w.heap.size,0,none⟩ (.int .i64 (s:Int))).setCell ⟨w.heap.size,1,none⟩ (.int .i64 (kd:Int))).drew:=(((Chg.refl _ V).setCell _ (.inl s_)).setCell _ (.inl s_)).drew;have i8:w.heap.size < V.heap.size:=b1.out.lt;obtain⟨W,hW⟩:=n_ (((V.setCell ⟨w.heap.size,0,none⟩ (.int .i64 (s:Int))).setCell ⟨w.heap.size,1,none⟩ (.int .i64 (kd:Int))).drew);rw[<-hW]at b2 d7 ⊢;have d8:=HU.out.trans (d7.below HU.out.size (fun g hg=>by rw[a_.1 hg];exact y_ _));have b0:=bv2 HR.out (s:=2) i7 (A':=A2) (fun m4=>by rw[<-i6,if_neg o_];rfl);have d9:=d8.alloc d8.size (.cells #[.int .u64 0,.int .u64 0,.int .u64 0] 341);have d':=BoxO.new W #[.int .u64 0,.int .u64 0,.int .u64 0] 341;have H:=b2.alloc (.cells #[.int .u64 0,.int .u64 0,.int .u64 0] 341);have i9:=b2.lt;obtain⟨Y,hY⟩:=n_ (W.alloc (.cells #[.int .u64 0,.int .u64 0,.int .u64 0] 341));rw[<-hY]at d9 d' H;have m5:=hY.symm;have g0:w.heap.size≠W.heap.size:=o_
  have g1:w.heap.size<=W.heap.size:=o_
  have g2:=H_ d9;have j0:=H_ (show BoxO Y 341 W.heap.size (a3 []) from d');have j1:=H_ H;have j2:=H_ b0;have e0:=H_ (c_ g0 g1);clear b2 d7 hW d8 b0 d9 d' H hY i8 i9 i5 b1 HU HR g0 g1 c' f8 f9;go_wp2_with fail
  go_loopw [0,26] (fun bv i wr=>∃(k n:Nat) (A4:Option Addr) (c4:Nat) (ns:List Nat) (r:List UInt8),k<=3/\bv=.slice A4 n c4/\i=.int .i64 (k:Int)/\Hid (It.tks k (b.drop 2)=some (ns,r)/\Row B0 w A4 n 1 (bts r)/\n<=c4/\c4<=maxLen/\n<=N/\BoxO wr 341 W.heap.size (a3 ns))/\Chg [W.heap.size] Y wr) (fun _ i _=>3 - (intOf i).toNat)
  case atStart=>exact⟨0,N - 2,A2,c - 2,[],b.drop 2,o_,by simp,rfl,H_ ⟨rfl,j2.out,o_,by unfold maxLen at *;omega,o_,j0.out⟩,Chg.refl _ _⟩
  case round=>
   obtain⟨k,n,A4,c4,ns,r,m7,rfl,rfl,Q,hc⟩:=hrel;have Z:=g2.out.trans (hc.below g2.out.size (fun g hg=>by rw[a_.1 hg];exact e0.out.2));have H:=j1.out.chg hc (by simpa using e0.out.1);have b':=It.xj1 Q.out.1
   by_cases hk:k < 3
   ·have m8:(k:Int) < 3:=o_
    have k5:IntKind.i64.wrap (k:Int)=(k:Int):=D_ _ o_;have b3:=((Q.out.2.1.up f5).below Z).up Z.size;have m9:=b3.zk;have b5:=take_any A4 n c4 r wr (by have:=Q.out.2.2.2.2.1;omega) b3;have b6:=Pn.take_size (l:=r);obtain⟨x,hx⟩:=n_ ((Pn.take r).1);obtain⟨sz,a0⟩:=n_ ((Pn.take r).2.1);obtain⟨er,a5⟩:=n_ ((Pn.take r).2.2);rw[<-hx,<-a0,<-a5]at b5;rw[<-a5,<-a0]at b6;have b7:=H_ b5;have HX:=H_ hx;have j4:=H_ a0;have e1:=H_ a5
    by_cases he:er=0
    ·subst he
     have k7:=b6 rfl;have a6:=It.zk4 Q.out.1 e1.out.symm;obtain⟨A5,g4⟩:∃A5,(if c4=sz then A4 else Option.map (fun x=>x.add sz) A4)=A5:=⟨_,rfl⟩;have g5:=bv2 Q.out.2.1 (s:=sz) o_ (A':=A5) (fun k8=>by rw[<-g4,if_neg (by have:=Q.out.2.2.1;omega)]);rw[<-HX.out,<-j4.out]at a6;have k9:sz<=n:=o_
     have j5:(sz:Int)<=(n:Int):=o_
     have k':sz<=c4:=by have:=Q.out.2.2.1;omega
     have j6:(sz:Int)<=(c4:Int):=o_
     have HT:=H_ (c_ a6 g5);have g6:=H_ (c_ hc Z);clear b5 b6 a6 g5 b3 hx a0 a5 H Z b';go_wp2_with fail;refine b7.out.mono ?_;rintro e w1 ⟨rfl,e2⟩;subst e2;clear b7;go_wp2_with fail;refine wp_region_held_drew (S:=fun w'=>Chg [W.heap.size] Y w'/\∃cs:List Value,cs.length=3/\BoxO w' 341 W.heap.size cs) rfl ⟨g6.out.1.drew,_,rfl,Q.out.2.2.2.2.2.drew⟩ (fun C=>?_);refine w_v 0 C ?_ (k:=kz27);go_simp;refine w_v 1 C ?_ (k:=kz27);go_simp;refine w_v 2 C ?_ (k:=kz27);go_simp;refine w_v 3 C ?_ (k:=kz27);go_simp;refine w_v 4 C ?_ (k:=kz27);go_simp;refine w_v 5 C ?_ (k:=kz27);go_simp;refine w_r 6 fun K U=>?_
     (obtain⟨cs,I,E⟩:=C.2;obtain⟨_,q0⟩:=eq6 E I hk;have z0:=E.free k)
     go_simp;refine U.out _ _ ⟨C.1.setCell _ (.inl s_),_,by rw[aE_];exact I,E.store k _⟩ ?_;clear C U K;intro C;go_simp;refine w_v 7 C ?_ (k:=kz27);go_simp;refine w_d ?_;have g7:Chg [W.heap.size] Y (wr.setCell ⟨W.heap.size,k,none⟩ (.int .u64 (x:Int))).drew:=(g6.out.1.setCell _ (.inl s_)).drew;have e3:=(Q.out.2.2.2.2.2.store k (.int .u64 (x:Int))).drew;rw[<-It.xj1 Q.out.1,zw5 ns x (by rw[It.xj1 Q.out.1];exact hk),It.xj1 Q.out.1]at e3;have HF:=H_ (c_ e3 g7);clear C e3 g7;go_wp2;go_roundw
     case rel=>exact⟨k+1,n - sz,A5,c4 - sz,ns++[x],r.drop sz,o_,by simp[g4],by go_num,H_ ⟨HT.out.1,HT.out.2,by have:=Q.out.2.2.1;omega,by have:=Q.out.2.2.2.1;omega,by have:=Q.out.2.2.2.2.1;omega,HF.out.1⟩,HF.out.2⟩
     case measure=>simp[intOf];omega
    ·have hR:It.take1 b=(It.bq2,[],er):=by rw[It.gw4 h2 hk Q.out.1 (by rw[<-e1.out];exact he),<-e1.out]
     have n1:((er:Int)==0)=false:=by simp;omega
     have q0:=H.c0;have q1:=H.c1;have q2:=H.c2;have q3:=H.c3;have q4:=H.c4;have z0:=H.free 0;have z1:=H.free 1;have z2:=H.free 2;have z3:=H.free 3;have z4:=H.free 4;have a1:=Z.trans ((zy5 It.bq2 H rfl).2.below Z.size (fun g hg=>by rw[a_.1 hg];exact y_ _));have g8:=H_ a1;have HR:=H_ hR;clear b5 b6 b3 hx a0 a5 H Z b' a1 hR;go_wp2_with fail;refine b7.out.mono ?_;rintro e w1 ⟨rfl,e2⟩;subst e2;clear b7;go_wp2;rw[HR.out];refine bodyPost_ret (v:=.tuple #[It.bq2.val,.slice none 0 0,.int .i64 (er:Int)]) (by simp[results,go_sem,It.val,It.bq2, *]) rfl ⟨none,0,0,rfl,Row.nil_,o_,o_,o_,g8.out⟩
   ·obtain rfl:k=3:=o_
    have hR:=It.yw3 h2 Q.out.1;rw[<-HS.out.1,<-HS.out.2]at hR;have g9:=Q.out.2.2.2.2.2;have g':=fun W1=>ex4 (ns.getD 2 0) (ww5 Q.out.1) W1;have h0:∀w',Chg [w.heap.size] wr w'->w'.cell? ⟨W.heap.size,0,none⟩=some (.int .u64 (ns.getD 0 0:Nat))/\w'.cell? ⟨W.heap.size,1,none⟩=some (.int .u64 (ns.getD 1 0:Nat))/\w'.cell? ⟨W.heap.size,2,none⟩=some (.int .u64 (ns.getD 2 0:Nat)):=fun w' h=>by
     have e:=g9.chg h (by simpa using fun e=>e0.out.1 e.symm);exact⟨e.cell 0,e.cell 1,e.cell 2⟩
    generalize ns.getD 0 0=t at *;generalize ns.getD 1 0=v at *;generalize ns.getD 2 0=xv at *;have KZ:=H_ h0;have j7:=H_ g';have HR:=H_ hR;have h7:=H_ Z;have a7:=H_ H;clear h0 g' hR g9 Z H;go_wp2_with fail;refine wp_region_held_drew (S:=fun w'=>Chg [w.heap.size] wr w'/\∃cs:List Value,cs.length=5/\BoxO w' 49 w.heap.size cs) rfl ⟨(Chg.refl _ wr).drew,_,rfl,a7.out.drew⟩ (fun C=>?_);refine w_v 0 C ?_ (k:=kz28);go_simp;refine w_v 1 C ?_ (k:=kz28);go_simp;refine w_v 2 C ?_ (k:=kz28);go_simp;refine w_v 3 C ?_ (k:=kz28);go_simp;refine w_v 4 C ?_ (k:=kz28);go_simp;refine w_v 5 C ?_ (k:=kz28);go_simp;refine w_v 7 C ?_ (k:=kz28);go_simp;refine w_r 6 fun K U=>?_;go_simp
    with_reducible refine(j7.out _).mono ?_
    rintro e w7 ⟨rfl,rfl⟩;go_simp;refine U.out _ _ C ?_;clear C U K;intro C;go_simp;refine w_r 8 fun K U=>?_
    (obtain⟨cs,I,E⟩:=C.2;obtain⟨_,_,_,_,_,q0,q1,q2,q3,q4⟩:=jk2 E I;have z0:=E.free 2)
    go_simp;refine U.out _ _ ⟨C.1.setCell _ (.inl s_),_,by rw[aE_];exact I,E.store 2 _⟩ ?_;clear C U K;intro C;go_simp;refine w_v 9 C ?_ (k:=kz28);go_simp;refine w_r 10 fun K U=>?_
    (obtain⟨cs,I,E⟩:=C.2;obtain⟨_,_,_,_,_,q0,q1,q2,q3,q4⟩:=jk2 E I;have z0:=E.free 3)
    go_simp;refine U.out _ _ ⟨C.1.setCell _ (.inl s_),_,by rw[aE_];exact I,E.store 3 _⟩ ?_;clear C U K;intro C;go_simp;refine w_v 11 C ?_ (k:=kz28);go_simp;refine w_r 12 fun K U=>?_
    (obtain⟨cs,I,E⟩:=C.2;obtain⟨_,_,_,_,_,q0,q1,q2,q3,q4⟩:=jk2 E I;have z0:=E.free 4)
    go_simp;refine U.out _ _ ⟨C.1.setCell _ (.inl s_),_,by rw[aE_];exact I,E.store 4 _⟩ ?_;clear C U K;intro C;go_simp;refine w_d ?_;have O:BoxO (((wr.setCell ⟨w.heap.size,2,none⟩ (.int .u64 (t:Int))).setCell ⟨w.heap.size,3,none⟩ (.int .u64 (v:Int))).setCell ⟨w.heap.size,4,none⟩ (.int .i64 (qy1 xv))).drew 49 w.heap.size [.int .i64 (s:Int),.int .i64 (kd:Int),.int .u64 (t:Int),.int .u64 (v:Int),.int .i64 (qy1 xv)]:=(((a7.out.store 2 _).store 3 _).store 4 _).drew;have e4:=C.1;clear C;obtain⟨X,hX⟩:=n_ ((((wr.setCell ⟨w.heap.size,2,none⟩ (.int .u64 (t:Int))).setCell ⟨w.heap.size,3,none⟩ (.int .u64 (v:Int))).setCell ⟨w.heap.size,4,none⟩ (.int .i64 (qy1 xv))).drew);rw[<-hX]at O e4 ⊢;have q0:=O.c0;have q1:=O.c1;have q2:=O.c2;have q3:=O.c3;have q4:=O.c4;have z0:=O.free 0;have z1:=O.free 1;have z2:=O.free 2;have z3:=O.free 3;have z4:=O.free 4;have e5:=h7.out.trans (e4.below h7.out.size (fun g hg=>by rw[a_.1 hg];exact y_ _));have a1:=e5.trans ((zy5 ⟨(s:Int),(kd:Int),t,v,qy1 xv⟩ O rfl).2.below e5.size (fun g hg=>by rw[a_.1 hg];exact y_ _));have hrow:=Q.out.2.1;have HF:=H_ (c_ hrow (c_ Q.out.2.2.2.2.1 (c_ Q.out.2.2.1 (c_ Q.out.2.2.2.1 a1))));clear O e4 hX e5 a1 hrow a7;go_wp2;rw[HR.out];refine bodyPost_ret (v:=.tuple #[(It.mk (s:Int) (kd:Int) t v (qy1 xv)).val,.slice A4 n c4,.int .i64 0]) (by simp[results,go_sem,It.val, *]) rfl ⟨A4,n,c4,rfl,HF.out⟩
def ry5 (w:World) (R:List It×Nat) (e:Ending) (w':World):Prop:=∃A' k c',e=.returned (.tuple #[.slice A' k c',.int .i64 (R.2:Int)])/\k=R.1.length/\Its w.heap.size w' A' k c' R.1/\Below w.heap.size w w'
theorem Its.nil (B:Nat) (w:World):Its B w none 0 0 []:=⟨⟨rfl,fun j hj=>by simp[itc]at hj⟩,y_ _,by unfold maxLen;omega,fun a C=>by cases C⟩
theorem ox4 (A:Option Addr) (N c:Nat) (b:List UInt8) (w:World) (hN:N<=1000000) (j7:N<=c) (j8:c<=maxLen) (hr:Row w.heap.size w A N 1 (bts b)):
  Calls prog 179 #[.slice A N c] w (ry5 w (It.read b)):=by
 obtain⟨i0,g0,g1,g2,g4⟩:=info_parts qw;have j':=hr.zk;have a1:=take_any A N c b w o_ hr;have a2:=Pn.take_size (l:=b);have C:=It.sx5 b;obtain⟨R,hR⟩:=n_ (It.read b);rw[<-hR]at C ⊢;obtain⟨n,hn⟩:=n_ ((Pn.take b).1);obtain⟨sz,O⟩:=n_ ((Pn.take b).2.1);obtain⟨er,a5⟩:=n_ ((Pn.take b).2.2);rw[<-hn,<-O,<-a5]at a1;rw[<-hn,<-O,<-a5]at C;rw[<-a5,<-O]at a2;clear hR hn O a5;have U:=H_ a1
 by_cases he:er=0
 ·subst he
  have d2:=a2 rfl;rw[if_pos rfl]at C
  by_cases d3:2000 < n
  ·rw[if_pos d3]at C
   have d4:(2000:Int) < (n:Int):=o_
   have J:=H_ C;clear a1 C a2 hr;go_enter func179,ntmps179;go_wp2_with fail;refine U.out.mono ?_;rintro e w1 ⟨rfl,a4⟩;subst a4;clear U;go_wp2;refine bodyPost_ret (v:=.tuple #[.slice none 0 0,.int .i64 2]) (by simp[results,go_sem]) rfl ⟨none,0,0,by rw[J.out];rfl,by rw[J.out];rfl,by rw[J.out];exact Its.nil _ _,Below.refl _ _⟩
  ·rw[if_neg d3]at C
   have d4:((2000:Int) < (n:Int))=False:=eq_false o_;obtain⟨A2,g6⟩:∃A2,(if c=sz then A else Option.map (fun x=>x.add sz) A)=A2:=⟨_,rfl⟩;have d5:=bv2 hr (s:=sz) o_ (A':=A2) (fun k0=>by rw[<-g6,if_neg o_]);have i9:sz<=N:=o_
   have g7:(sz:Int)<=(N:Int):=o_
   have i':sz<=c:=o_
   have g8:(sz:Int)<=(c:Int):=o_
   have J:=H_ C;have g9:=H_ d5;clear a1 C a2 hr d5 d2;go_enter func179,ntmps179;go_wp2_with fail;refine U.out.mono ?_;rintro e w1 ⟨rfl,a4⟩;subst a4;clear U;go_wp2_with fail
   go_loopw [0,7,28] (fun bv o i wr=>∃(k m:Nat) (A3:Option Addr) (c3:Nat) (r:List UInt8) (out:List It) (A4:Option Addr) (c4:Nat),k<=n/\bv=.slice A3 m c3/\o=.slice A4 k c4/\i=.int .u64 (k:Int)/\Hid (It.takes n (b.drop sz) []=It.takes (n - k) r out/\out.length=k/\Row w.heap.size wr A3 m 1 (bts r)/\m<=c3/\c3<=maxLen/\m<=N/\wr.ownsRow w.heap.size 49 5 (.slice A4 k c4) k (itc out))/\Below w.heap.size w wr) (fun _ _ i _=>n - (intOf i).toNat)
   case atStart=>exact⟨0,N - sz,A2,c - sz,b.drop sz,[],none,0,w_ _,rfl,rfl,rfl,H_ ⟨rfl,rfl,g9.out,o_,by unfold maxLen at *;omega,o_,E_ _ _ _ _⟩,Below.refl _ _⟩
   case round=>
    obtain⟨k,m,A3,c3,r,out,A4,c4,k2,rfl,rfl,rfl,HK,I⟩:=hrel
    by_cases hk:k < n
    ·have g':(k:Int) < (n:Int):=o_
     have k3:IntKind.u64.wrap ((k:Int)+1)=((k+1:Nat):Int):=by rw[IntKind.wrap_u64];omega
     obtain⟨h1,h2,h3,h4,h5,h6,h7⟩:=HK.out;have d6:=one_any A3 m c3 r wr o_ h4 h5 w.heap.size I.size h3;rw[show n - k=(n - (k+1))+1 by omega,It.yj3]at h1;have d7:=fun w'=>own_below (w':=w') h7;generalize It.take1 r=Q at *;obtain⟨x,r2,er⟩:=Q;simp only at h1;have d8:=H_ d6;have H1:=H_ h1;have d9:=H_ d7;clear d6 h1 h3 h7 d7;go_wp2_with fail;refine d8.out.mono ?_;rintro e w2 ⟨A5,m5,c5,rfl,z1,z5,z2,z3,z4⟩;have b9:=d9.out _ z4;have H:=I.trans (z4.mono I.size)
     by_cases he:er=0
     ·subst he
      have h1:=H1.out;rw[if_pos rfl]at h1;have e0:=z4.mono I.size;have e4:=e0.alloc H.size (.cells #[.int .i64 x.s,.int .i64 x.k,.int .u64 (x.t:Int),.int .u64 (x.v:Int),.int .i64 x.x] 49);have e5:=b9.alloc (.cells #[.int .i64 x.s,.int .i64 x.k,.int .u64 (x.t:Int),.int .u64 (x.v:Int),.int .i64 x.x] 49);have Z:BoxO (w2.alloc (.cells #[.int .i64 x.s,.int .i64 x.k,.int .u64 (x.t:Int),.int .u64 (x.v:Int),.int .i64 x.x] 49)) 49 w2.heap.size x.cells:=BoxO.new w2 #[.int .i64 x.s,.int .i64 x.k,.int .u64 (x.t:Int),.int .u64 (x.v:Int),.int .i64 x.x] 49;have b0:=Z.cell 0;have b1:=Z.cell 1;have b2:=Z.cell 2;have b3:=Z.cell 3;have b4:=Z.cell 4;simp only[It.cells,gE0,gE1]at b0 b1 b2 b3 b4;have a9:(w2.alloc (.cells #[.int .i64 x.s,.int .i64 x.k,.int .u64 (x.t:Int),.int .u64 (x.v:Int),.int .i64 x.x] 49)).heap.size=w2.heap.size+1:=by simp
      have e6:=e4.alloc (by have:=H.size;omega) (.cells #[.int .i64 x.s,.int .i64 x.k,.int .u64 (x.t:Int),.int .u64 (x.v:Int),.int .i64 x.x] 49);have e7:=e5.alloc (.cells #[.int .i64 x.s,.int .i64 x.k,.int .u64 (x.t:Int),.int .u64 (x.v:Int),.int .i64 x.x] 49);have e9:BoxO ((w2.alloc (.cells #[.int .i64 x.s,.int .i64 x.k,.int .u64 (x.t:Int),.int .u64 (x.v:Int),.int .i64 x.x] 49)).alloc (.cells #[.int .i64 x.s,.int .i64 x.k,.int .u64 (x.t:Int),.int .u64 (x.v:Int),.int .i64 x.x] 49)) 49 (w2.heap.size+1) x.cells:=by rw[<-a9];exact BoxO.new _ #[.int .i64 x.s,.int .i64 x.k,.int .u64 (x.t:Int),.int .u64 (x.v:Int),.int .i64 x.x] 49
      have a':((w2.alloc (.cells #[.int .i64 x.s,.int .i64 x.k,.int .u64 (x.t:Int),.int .u64 (x.v:Int),.int .i64 x.x] 49)).alloc (.cells #[.int .i64 x.s,.int .i64 x.k,.int .u64 (x.t:Int),.int .u64 (x.v:Int),.int .i64 x.x] 49)).heap.size=w2.heap.size+1+1:=by simp
      have HR:=H_ (az1 e9);have HO:=H_ e7;have HB:=H_ e6;have k7:=H_ (c_ a' H.size);have HZ:=H_ (c_ z1 (c_ z2 h1));have b5:itc out++x.cells=itc (out++[x]):=by simp[itc]
      have HX:=H_ b5;have k9:k<=2000:=o_
      have H2:=H_ h2;clear e0 e4 e5 Z e6 e7 e9 a9 a' b9 H z1 z4 h1 b5 H1 d9 h2;unfold It.val;go_wp2_with (at_builtin;refine iy ?_);refine bz (iq rfl (.tmp 39) (.tmp 41) _ rfl w.heap.size 49 i0 _ 5 40 underlying26 g0 g1 g2 g4 rfl o_ wr HB.out (j_ I.size HB.out.size) _ k (itc out) rfl HO.out _ _ 1 1 x.cells rfl HR.out (fun v hv=>uj [x] v (by simpa [itc] using hv)) (k+1) _ rfl HX.out (by unfold maxLen;omega) o_ ?_);intro A6 c6 w5 q1 q2 q3 q4 q5;have HF:=H_ (c_ q1 (HZ.out.1.below q2));have i4:=I.trans q2;clear q1 q2 q3 HR HO HB b0 b1 b2 b3 b4;go_wp2;go_roundw
      case rel=>exact⟨k+1,m5,A5,c5,r2,out++[x],A6,c6,o_,rfl,rfl,by go_num,H_ ⟨HZ.out.2.2,by rw[d_,H2.out];rfl,HF.out.2,HZ.out.2.1,o_,o_,HF.out.1⟩,i4⟩
      case measure=>simp[intOf];omega
     ·have h1:=H1.out
      rw[if_neg he]at h1;have i5:((er:Int)==0)=false:=by simp;omega
      have hR:R=([],er):=by
       have:=J.out;rw[h1]at this;rw[this,if_neg he]
      have E:=H_ hR;clear h1 z1 z4 b9 hR d8;unfold It.val;go_wp2;refine bodyPost_ret (v:=.tuple #[.slice none 0 0,.int .i64 (er:Int)]) (by simp[results,go_sem]) rfl ⟨none,0,0,by rw[E.out],by rw[E.out];rfl,by rw[E.out];exact Its.nil _ _,?_⟩;exact H.alloc H.size _
    ·obtain rfl:k=n:=o_
     have g':((k:Int) < (k:Int))=False:=eq_false o_;obtain⟨h1,h2,h3,h4,h5,h6,h7⟩:=HK.out;rw[bQ_]at h1;have C:R=if r=[]/\out.all It.ok=true then (out,0) else ([],3):=by
      have:=J.out;rw[h1]at this;exact this
     have e':=h3.zk
     by_cases hm:0 < m
     ·have i6:(0:Int) < (m:Int):=o_
      rw[if_neg (fun h=>by rw[h.1]at e';simp at e';omega)]at C;have E:=H_ C;clear h1 C h3 h7;go_wp2;refine bodyPost_ret (v:=.tuple #[.slice none 0 0,.int .i64 3]) (by simp[results,go_sem]) rfl ⟨none,0,0,by rw[E.out];rfl,by rw[E.out];rfl,by rw[E.out];exact Its.nil _ _,I⟩
     ·have i6:((0:Int) < (m:Int))=False:=eq_false o_
      have i7:r=[]:=ag_.1 o_;have b':=xq2 A4 k c4 out wr o_ (Row.own h7);obtain⟨ab,f5⟩:=n_ (out.all It.ok);rw[<-f5]at b' C;simp only[i7,true_and]at C;have a6:=H_ b';obtain⟨A5,c5,hv,f6,f7,b6⟩:=gz h7;injection hv with e1 e2 e3;subst e1 e3;have f8:=fun w'=>own_below (w':=w') h7;have H7:=H_ (c_ f8 (c_ f6 (c_ f7 b6)));have H2:=H_ h2;clear h1 h3 h7 f8 b' f5 b6 f6 f7 h2
      cases ab with
      |true=>
       rw[if_pos rfl]at C;have E:=H_ C;clear C;go_wp2_with fail;refine a6.out.mono ?_;rintro e w2 ⟨rfl,H⟩;have b7:Its w.heap.size w2 A4 k c4 out:=⟨Row.own (H7.out.1 _ H),H7.out.2.1,H7.out.2.2.1,fun p hp=>(H7.out.2.2.2 p hp).1⟩;have HI:=H_ (c_ b7 (I.trans (H.mono I.size)));clear b7 H a6 H7;go_wp2;refine bodyPost_ret (v:=.tuple #[.slice A4 k c4,.int .i64 0]) (by simp[results,go_sem]) rfl ⟨A4,k,c4,by rw[E.out];rfl,by rw[E.out];exact H2.out.symm,by rw[E.out];exact HI.out.1,HI.out.2⟩
      |false=>
       rw[if_neg s_]at C;have E:=H_ C;clear C;go_wp2_with fail;refine a6.out.mono ?_;rintro e w2 ⟨rfl,H⟩;have HI:=H_ (I.trans (H.mono I.size));clear H a6 H7;go_wp2;refine bodyPost_ret (v:=.tuple #[.slice none 0 0,.int .i64 3]) (by simp[results,go_sem]) rfl ⟨none,0,0,by rw[E.out];rfl,by rw[E.out];rfl,by rw[E.out];exact Its.nil _ _,HI.out⟩
 ·rw[if_neg he]at C
  have i5:((er:Int)==0)=false:=by simp;omega
  have J:=H_ C;clear a1 C a2 hr;go_enter func179,ntmps179;go_wp2_with fail;refine U.out.mono ?_;rintro e w1 ⟨rfl,a4⟩;subst a4;clear U;go_wp2;refine bodyPost_ret (v:=.tuple #[.slice none 0 0,.int .i64 (er:Int)]) (by simp[results,go_sem]) rfl ⟨none,0,0,by rw[J.out],by rw[J.out];rfl,by rw[J.out];exact Its.nil _ _,Below.refl _ _⟩
theorem Fr.ty4 (l:List UInt8) (p:Nat):(Fr.take l p).2.2.2≠1/\(Fr.take l p).2.1.length<=l.length:=by
 unfold Fr.take;split
 ·simp
 ·split
  ·simp
  ·split
   ·simp
   ·split
    ·simp
    ·split
     ·simp
     ·refine⟨by simp,?_⟩
      simp only[v_,I_];omega
theorem nj4 (a:It) (w:World):Calls prog 278 #[a.val] w fun e w'=>e=.returned (.bool (!a.ok))/\Below w.heap.size w w':=by
 have C:=fun W=>sk1 a W;unfold It.val at C ⊢;go_enter func278,ntmps278;go_wp2_with fail;refine(C _).mono ?_;rintro e H ⟨rfl,E⟩;go_wp2;go_ret;exact⟨rfl,az (b_ _ _) E⟩
theorem tj3 (A:Option Addr) (n c:Nat) (l:List It) (w:World) (hn:n<=1000000) (O:Row w.heap.size w A n 5 (itc l)):
  Calls prog 240 #[.slice A n c] w fun e w'=>e=.returned (.bool (Tb.may l))/\Below w.heap.size w w':=by
 have Q:=O.qj;have E:=rq2 A n c l w hn O;have C:=fun(W:World) (hb:Below w.heap.size w W)=>cx2 278 (fun _ _=>rfl) #[] (fun x=>!x.ok) A n c l W hn ((O.below hb).up hb.size) (fun x w1 _=>nj4 x w1);simp only[wx2]at C;obtain⟨rb,H⟩:=n_ (decide (qx l));obtain⟨ab,I⟩:=n_ (l.all It.ok);have hm:Tb.may l=(decide (0 < n) &&rb&&ab):=by
  unfold Tb.may;rw[H,I]
  congr 2
  rw[decide_eq_decide,<-Q,bh_]
 rw[<-H]at E;rw[<-I]at C;rw[hm];have U:=H_ E;have Z:=H_ C;clear E C hm O H I
 by_cases h0:0 < n
 ·have a0:(0:Int) < (n:Int):=o_
  have hd:decide (0 < n)=true:=decide_eq_true h0;rw[hd];go_enter func240,ntmps240;go_wp2_with fail;refine U.out.mono ?_;rintro e w1 ⟨rfl,J⟩
  cases rb with
  |false=>
   go_wp2;go_ret;exact⟨rfl,J⟩
  |true=>
   go_wp2_with fail;refine(Z.out _ J).mono ?_;rintro e w2 ⟨rfl,a1⟩;have a2:=az J a1;go_wp2;go_ret;exact⟨ik s_,a2⟩
 ·have a0:((0:Int) < (n:Int))=False:=eq_false o_
  have hd:decide (0 < n)=false:=decide_eq_false h0;rw[hd];go_enter func240,ntmps240;go_wp2;go_ret;exact⟨rfl,Below.refl _ _⟩
theorem dx5 (A:Option Addr) (N c:Nat) (b:List UInt8) (L:Option Addr) (m d:Nat) (l:List It) (w:World) (hN:N<=1000000) (a8:N<=c) (a9:c<=maxLen) (hm:m<=100) (hr:Row w.heap.size w A N 1 (bts b)) (hq:Row w.heap.size w L m 5 (itc l)) (C:Tb.may l=true) (hf:∀x∈l,x.fit):
  Calls prog 209 #[.slice A N c,.slice L m d] w fun e w'=>∃A' M c',e=.returned (.tuple #[.slice A' M c',.int .i64 0])/\
   w'.ownsRow w.heap.size 5 1 (.slice A' M c') M (bts (b++Fr.put 2 (It.bytes l)))/\M<=c'/\c'<=maxLen/\Below w.heap.size w w':=by
 have d0:=hq.qj;have H:=tj3 L m d l w o_ hq;rw[C]at H;have O:∀x∈l,x.ok=true/\x.fit:=fun x hx=>by
  simp only[Tb.may,G_,ab_]at C;exact⟨C.2 x hx,hf x hx⟩
 have I:=fun(W:World) (hb:Below w.heap.size w W)=>zk1 none 0 0 [] L m d l W o_ o_ Row.nil_ ((hq.below hb).up hb.size) O;simp only[C_]at I;have d1:=It.bq1 l;have d2:((100:Int) < (m:Int))=False:=eq_false o_;have Q:=H_ H;have U:=H_ I;clear H I hq O C hf;go_enter func209,ntmps209;go_wp2_with fail;refine Q.out.mono ?_;rintro e w1 ⟨rfl,Z⟩;go_wp2_with fail;refine(U.out _ Z).mono ?_;rintro e w2 ⟨A1,M1,c1,rfl,J,a',b0,b1⟩;have b2:M1=(It.bytes l).length:=by
  have:=J.1;rw[rq]at this;omega
 have E:=az Z b1;have a0:=lk1 A N c b 2 A1 M1 c1 (It.bytes l) w2 o_ a8 a9 ((hr.below E).up E.size) o_ o_ o_ a' b0 (Row.own J);have a1:=H_ a0;clear a0 J U Q b2 hr;go_wp2_with fail;refine a1.out.mono ?_;rintro e w3 ⟨A2,M2,c2,rfl,a2,b3,b5,b6⟩;have a4:=own_base a2 E.size;have a5:=az E b6;have HF:=H_ (c_ a4 (c_ b3 (c_ b5 a5)));clear a2 a4 a5 a1;go_wp2;go_ret2;exact⟨A2,M2,c2,rfl,HF.out⟩
def ez1 (b:List UInt8) (p:Nat):List It×Nat×Nat:=
 if (Fr.take b p).2.2.2=0/\(Fr.take b p).1=2/\(It.read (Fr.take b p).2.1).2=0/\(It.read (Fr.take b p).2.1).1.length<=100/\Tb.may (It.read (Fr.take b p).2.1).1=true then
  ((It.read (Fr.take b p).2.1).1,(Fr.take b p).2.2.1,0) else ([],0,9)
def ky3 (w:World) (R:List It×Nat×Nat) (e:Ending) (w':World):Prop:=∃A' k c',e=.returned (.tuple #[.slice A' k c',.int .i64 (R.2.1:Int),.int .i64 (R.2.2:Int)])/\k=R.1.length/\Its w.heap.size w' A' k c' R.1/\Below w.heap.size w w'
theorem tj4 (A:Option Addr) (N c:Nat) (b:List UInt8) (p:Nat) (w:World) (hN:N<=1000000) (d':N<=c) (e0:c<=maxLen) (hr:Row w.heap.size w A N 1 (bts b)) (hp:p<=N):
  Calls prog 182 #[.slice A N c,.int .i64 (p:Int)] w (ky3 w (ez1 b p)):=by
 have g1:=hr.zk;have b0:=ny4 A N c b p w o_ d' e0 hr hp;obtain⟨e2,e3⟩:=Fr.ty4 b p;obtain⟨R,hR⟩:=n_ (ez1 b p);rw[<-hR];unfold ez1 at hR;generalize Fr.take b p=T at *;obtain⟨kd,body,nx,er⟩:=T;simp only at b0 e2 e3 hR;have a6:∀w',Below w.heap.size w w'->R=([],0,9)->ky3 w R (.returned (.tuple #[.slice none 0 0,.int .i64 0,.int .i64 9])) w':=fun w' hb e=>by
  rw[e];exact⟨none,0,0,rfl,rfl,Its.nil _ _,hb⟩
 have U:=H_ b0;have HR:=H_ hR;have H:=H_ a6;have g4:((er:Int)==1)=false:=by simp;omega
 clear b0 hR a6 hr
 by_cases he:er=0
 ·by_cases hk:kd=2
  ·subst he hk
   have a4:=HR.out;have g5:body.length<=1000000:=o_
   obtain⟨Q,hQ⟩:=n_ (It.read body);rw[<-hQ]at a4;obtain⟨q,qe⟩:=Q;simp only[true_and]at a4;have b1:=fun(A1:Option Addr) (M1 c1:Nat) (W:World) h1 h2 h3 h4=>ox4 A1 M1 c1 body W h1 h2 h3 h4;simp only[<-hQ]at b1;have d0:=H_ b1;have a5:=H_ a4;clear a4 b1 hQ HR;go_enter func182,ntmps182;go_wp2_with fail;refine U.out.mono ?_;rintro e w1 ⟨A1,M1,c1,rfl,I,b2,b3,J⟩;have e':M1=body.length:=by
    have:=I.1;rw[rq]at this;omega
   have a7:=d0.out A1 M1 c1 w1 o_ b2 b3 (Row.own I);have d1:=H_ a7;clear a7 I U d0 e';go_wp2_with fail;refine d1.out.mono ?_;rintro e w2 ⟨A2,k,c2,rfl,Z,E,d2⟩;simp only at Z E;have a8:=az J d2;have a9:Its w.heap.size w2 A2 k c2 q:=⟨E.row,E.nc,E.cm,fun a ha=>j_ J.size (E.low a ha)⟩;have HL:=H_ a9;have b5:=H_ Z;have a0:=H_ a8;clear E d2 a8 d1 a9 J
   by_cases d4:qe=0
   ·subst d4
    by_cases d5:k<=100
    ·have d6:((100:Int) < (k:Int))=False:=eq_false o_
     have b6:=tj3 A2 k c2 q w2 o_ HL.out.row;obtain⟨mb,b7⟩:=n_ (Tb.may q);rw[<-b7]at b6;have b8:=H_ b6;have d7:=H_ b7;clear b6 Z b7;go_wp2_with fail;refine b8.out.mono ?_;rintro e w3 ⟨rfl,a1⟩;have O:=az a0.out a1
     cases mb with
     |true=>
      have C:R=(q,nx,0):=by rw[a5.out,if_pos ⟨trivial,by rw[<-b5.out];exact d5,d7.out.symm⟩]
      have a':Its w.heap.size w3 A2 k c2 q:=⟨(HL.out.row.below a1).up a1.size,HL.out.nc,HL.out.cm,HL.out.low⟩;have HF:=H_ (show ky3 w R (.returned (.tuple #[.slice A2 k c2,.int .i64 (nx:Int),.int .i64 0])) w3 from by rw[C];exact⟨A2,k,c2,rfl,b5.out,a',O⟩);clear C a' O a1 b8;go_wp2;refine bodyPost_ret (v:=.tuple #[.slice A2 k c2,.int .i64 (nx:Int),.int .i64 0]) (by simp[results,go_sem]) rfl HF.out
     |false=>
      have C:R=([],0,9):=by rw[a5.out,if_neg (by rw[<-d7.out];simp)]
      have HF:=H_ (H.out w3 O C);clear C O a1 b8;go_wp2;refine bodyPost_ret (v:=.tuple #[.slice none 0 0,.int .i64 0,.int .i64 9]) (by simp[results,go_sem]) rfl HF.out
    ·have d6:(100:Int) < (k:Int):=o_
     have C:R=([],0,9):=by rw[a5.out,if_neg (by rw[<-b5.out];exact fun h=>d5 h.2.1)]
     have HF:=H_ (H.out w2 a0.out C);clear C Z;go_wp2;refine bodyPost_ret (v:=.tuple #[.slice none 0 0,.int .i64 0,.int .i64 9]) (by simp[results,go_sem]) rfl HF.out
   ·have f':((qe:Int)==0)=false:=by simp;omega
    have C:R=([],0,9):=by rw[a5.out,if_neg (fun h=>d4 h.1)]
    have HF:=H_ (H.out w2 a0.out C);clear C Z;go_wp2;refine bodyPost_ret (v:=.tuple #[.slice none 0 0,.int .i64 0,.int .i64 9]) (by simp[results,go_sem]) rfl HF.out
  ·have g8:((kd:Int)==2)=false:=by simp;omega
   subst he;have a2:R=([],0,9):=by rw[HR.out,if_neg (by simp[hk])]
   have H9:=H_ a2;clear a2;go_enter func182,ntmps182;go_wp2_with fail;refine U.out.mono ?_;rintro e w1 ⟨A1,M1,c1,rfl,I,b2,b3,J⟩;clear I U;go_wp2;refine bodyPost_ret (v:=.tuple #[.slice none 0 0,.int .i64 0,.int .i64 9]) (by simp[results,go_sem]) rfl (H.out _ J H9.out)
 ·have g9:((er:Int)==0)=false:=by simp;omega
  have a2:R=([],0,9):=by rw[HR.out,if_neg (by simp[he])]
  have H9:=H_ a2;clear a2;go_enter func182,ntmps182;go_wp2_with fail;refine U.out.mono ?_;rintro e w1 ⟨A1,M1,c1,rfl,I,b2,b3,J⟩;clear I U;go_wp2;refine bodyPost_ret (v:=.tuple #[.slice none 0 0,.int .i64 0,.int .i64 9]) (by simp[results,go_sem]) rfl (H.out _ J H9.out)
theorem uw4 (L:Option Addr) (m d:Nat) (l:List It) (w:World) (h0:0 < m) (hm:m<=1000) (hq:Row w.heap.size w L m 5 (itc l)) (hk:∀x∈l,x.ok=true/\x.fit):
  Calls prog 135 #[.slice L m d] w fun e w'=>∃A' M c',e=.returned (.tuple #[.slice A' M c',.int .i64 0])/\
   w'.ownsRow w.heap.size 5 1 (.slice A' M c') M (bts (Lg.batch l))/\M<=c'/\c'<=maxLen/\Below w.heap.size w w':=by
 have b2:=hq.qj;have C:=zk1 none 0 0 [] L m d l w o_ o_ Row.nil_ hq hk;rw[C_]at C;have b3:=It.bq1 l;have b5:((m:Int)==0)=false:=by simp;omega
 have I:=H_ C;clear C hk;go_enter func135,ntmps135;go_wp2_with fail;refine I.out.mono ?_;rintro e w1 ⟨A1,M1,c1,rfl,E,a2,a4,J⟩;have a5:M1=(It.bytes l).length:=by
  have:=E.1;rw[rq]at this;omega
 have a6:M1<=60000:=o_
 have b1:((60000:Int) < (M1:Int))=False:=eq_false o_;have H:=lk1 none 0 0 [] 1 A1 M1 c1 (It.bytes l) w1 o_ o_ o_ Row.nil_ o_ o_ a6 a2 a4 (Row.own E);rw[C_]at H;have O:=H_ H;clear H E I a5;go_wp2_with fail;refine O.out.mono ?_;rintro e w2 ⟨A2,M2,c2,rfl,Q,a7,a8,a9⟩;have U:=own_base Q J.size;have Z:=az J a9;have HF:=H_ (c_ U (c_ a7 (c_ a8 Z)));clear Q U Z O;go_wp2;go_ret2;exact⟨A2,M2,c2,rfl,HF.out⟩
abbrev LgAt (w:World) (g xd:Nat) (nm:List UInt8) (sz ct:Nat):Prop:=BoxO w 173 g [.pointer (some ⟨xd,0,none⟩),.string (str nm),.int .i64 (sz:Int),.int .i64 (ct:Int),.bool false]
theorem UpdM.drew {X:Dw} {S:Sd} {w w':World} (h:UpdM X w.drew w' S):UpdM X w w' S:=by
 obtain⟨X2,a,b,c,d⟩:=h;exact⟨X2,a,b,((Chg.refl X.foot w).drew).trans c (fun g C=>.inl C),d⟩
theorem LgAt.upd {X:Dw} {S:Sd} {w w':World} {g C:Nat} {nm:List UInt8} {sz ct:Nat} (h:LgAt w g C nm sz ct) (E:UpdM X w w' S) (H:g∉X.foot):LgAt w' g C nm sz ct:=by
 obtain⟨X2,a,b,c,d⟩:=E;exact h.chg c H
theorem wk2 (l:List UInt8):(str l).data.toList=l:=by simp[str]
theorem rv2 (g C:Nat) (nm:List UInt8) (sz ct:Nat) (w:World) (h:LgAt w g C nm sz ct):
  Calls prog 43 #[.pointer (some ⟨g,0,none⟩)] w fun e w'=>e=.returned (.int .i64 (ct:Int))/\w'=w:=by
 have E:=H_ (sq2 g 3 (ct:Int) w (h.cell 3));clear h;go_enter func43,ntmps43;go_wp2_with fail;refine E.out.mono ?_;rintro e H ⟨rfl,rfl⟩;go_wp2;go_ret;exact⟨rfl,rfl⟩
theorem kz22 {P S a J v} (h:Hv P S a J v:=by intro w C;(have c0:=C.c0;have c1:=C.c1);go_simp;try (with_reducible rfl)):Hv P S a J v:=h
theorem ek2 (X:Dw) (S:Sd) (g:Nat) (nm:List UInt8) (sz ct:Nat) (w:World) (Z:nm.length<=1000) (h:Dm w X S) (E:LgAt w g X.d nm sz ct) (I:g∉X.foot):
  Calls prog 72 #[.pointer (some ⟨g,0,none⟩)] w fun e w'=>e=.returned (.int .i64 ((S.sync nm).2:Int))/\UpdM X w w' (S.sync nm).1:=by
 have c0:=E.c0;have c1:=E.c1;have c4:=E.c4;have hs:=(Acc.start (F:=[]) (h.below (w':=w.drew) (ak b0_))).sync (str nm) (by rw[ny];unfold maxLen;omega);rw[wk2]at hs;have H:Calls prog 142 #[.pointer (some ⟨X.d,0,none⟩),.string (str nm)] w.drew fun e w'=>e=.returned (.int .i64 ((S.sync nm).2:Int))/\UpdM X w w' (S.sync nm).1:=hs.mono fun e w' ⟨h1,X2,h2⟩=>⟨h1,UpdM.drew h2.updM⟩;generalize (S.sync nm).2=er at *;have HS:=H_ H;have O:=H_ E;clear hs H E h;go_enter func72,ntmps72;go_wp2_with fail;refine wp_region_held_drew (S:=fun w'=>LgAt w' g X.d nm sz ct) rfl O.out.drew (fun C=>?_);refine w_v 0 C ?_ (k:=kz22);go_simp;refine w_v 1 C ?_ (k:=kz22);go_simp;refine w_v 2 C ?_ (k:=kz22);go_simp;refine w_v 3 C ?_ (k:=kz22);go_simp;refine w_v 4 C ?_ (k:=kz22);go_simp;refine w_v 5 C ?_ (k:=kz22);go_simp;refine w_v 6 C ?_ (k:=kz22);go_simp;refine w_v 7 C ?_ (k:=kz22);go_simp;refine w_r 8 fun K Q=>?_;go_simp
 refine m_ HS ?_
 rintro e w3 ⟨rfl,U⟩;go_simp;refine Q.out _ _ (O.out.upd U I) ?_;clear C Q K;intro C;go_simp;refine w_v 9 C ?_ (k:=kz22);go_simp;refine w_d ?_;clear C;go_wp2;go_ret;exact⟨rfl,U⟩
def qy4 (X:Dw) (w:World) (nm:List UInt8) (R:Sd×Nat) (e:Ending) (w':World):Prop:=∃X',X'.d=X.d/\Dm w' X' R.1/\Chg X.foot w w'/\(∀g∈X'.foot,g∈X.foot\/w.heap.size<=g)/\
 ((R.2≠0/\e=.returned (.tuple #[.pointer none,.int .i64 (R.2:Int)]))\/(R.2=0/\∃g,e=.returned (.tuple #[.pointer (some ⟨g,0,none⟩),.int .i64 0])/\LgAt w' g X.d nm 0 0/\w.heap.size<=g/\g∉X'.foot))
theorem sk3 (X:Dw) (S:Sd) (nm:List UInt8) (w:World) (a2:nm.length<=1000) (E:S.load<=1099511627776) (h:Dm w X S):
  Calls prog 111 #[.pointer (some ⟨X.d,0,none⟩),.string (str nm)] w (qy4 X w nm (S.create nm)):=by
 have hs:=(Acc.start (F:=[]) h).create (str nm) (by rw[ny];unfold maxLen;omega) E;rw[wk2]at hs;obtain⟨R,O⟩:=n_ (S.create nm);rw[<-O]at hs ⊢;obtain⟨S1,Q⟩:=R;simp only at hs;have U:=H_ hs;clear hs h O;go_enter func111,ntmps111;go_wp2_with fail;refine U.out.mono ?_;rintro e Z ⟨rfl,X2,h2⟩;have C:=H_ h2;clear h2 U
 by_cases he:Q=0
 ·subst he
  go_wp2;go_ret2;have hc:=C.out.c;have H:=C.out.dm.dk.lt;have I:=hc.size;have J:=b_ Z (.cells #[.pointer (some ⟨X.d,0,none⟩),.string (str nm),.int .i64 0,.int .i64 0,.bool false] 173);refine⟨X2,C.out.e,C.out.dm.below J,by simpa using hc.alloc (.cells #[.pointer (some ⟨X.d,0,none⟩),.string (str nm),.int .i64 0,.int .i64 0,.bool false] 173),C.out.f,.inr ⟨rfl,Z.heap.size,rfl,BoxO.new _ _ _,I,fun hm=>?_⟩⟩;have:=H _ hm;omega
 ·have a5:((Q:Int)==0)=false:=by simp;omega
  go_wp2;go_ret2;exact⟨X2,C.out.e,C.out.dm,by simpa using C.out.c,C.out.f,.inl ⟨he,rfl⟩⟩
def sv3 (X:Dw) (g:Nat) (w:World) (nm:List UInt8) (sz ct len:Nat) (R:Sd×Nat) (e:Ending) (w':World):Prop:=e=.returned (.int .i64 (R.2:Int))/\∃X',X'.d=X.d/\Dm w' X' R.1/\Chg (g::X.foot) w w'/\(∀g∈X'.foot,g∈X.foot\/w.heap.size<=g)/\
 (if R.2=0 then LgAt w' g X.d nm (sz+len) (ct+1) else LgAt w' g X.d nm sz ct)
theorem cx5 (X:Dw) (S:Sd) (g:Nat) (nm:List UInt8) (sz ct:Nat) (L:Option Addr) (m d:Nat) (l:List It) (w:World) (f9:nm.length<=1000) (h:Dm w X S) (hg:LgAt w g X.d nm sz ct) (a':g∉X.foot) (d4:NG<=g)
  (f':sz<=1000000000000) (g0:ct<=1000000000) (h0:0 < m) (hm:m<=1000) (hq:Row w.heap.size w L m 5 (itc l)) (hk:∀x∈l,x.ok=true/\x.fit):
  Calls prog 60 #[.pointer (some ⟨g,0,none⟩),.slice L m d] w (sv3 X g w nm sz ct (Lg.batch l).length (S.append nm (Lg.batch l))):=by
 have c4:=hg.c4;have hb:=uw4 L m d l w h0 hm hq hk;have d6:=Lg.lw2 l;have g2:=hq.qj;have g4:=hg.lt;have HB:=H_ hb;have HD:=H_ h;have HG:=H_ hg;obtain⟨R,hR⟩:=n_ (S.append nm (Lg.batch l));obtain⟨len,I⟩:=n_ ((Lg.batch l).length);rw[<-hR,<-I];obtain⟨S1,er⟩:=R;have HR:=H_ hR;have b2:=H_ I;rw[<-I]at d6;clear hb h hg hk hq hR I;go_enter func60,ntmps60;go_wp2_with fail;refine HB.out.mono ?_;rintro e w1 ⟨A1,J,c1,rfl,U,g7,g8,Z⟩;have d':J=len:=by
  have:=U.1;rw[rq,<-b2.out]at this;omega
 obtain⟨A2,c2,hv,e0,e4,a2⟩:=gz U;injection hv with e1 e2 e3;subst e1 e3;have b3:=HD.out.below Z;have b5:=HG.out.below Z;have hA:∀a,A1=some a->a.block∉X.foot:=fun a ha hm=>by
  have h2:=(a2 a ha).1;have h3:=HD.out.dk.lt _ hm;omega
 have a0:=(Acc.start (F:=[]) (b3.below (w':=w1.drew) (ak b0_))).append (str nm) (by rw[ny];unfold maxLen;omega) A1 J c1 (Lg.batch l) o_ (Row.own U) hA;rw[wk2]at a0;rw[<-HR.out]at a0;have a4:Calls prog 136 #[.pointer (some ⟨X.d,0,none⟩),.string (str nm),.slice A1 J c1] w1.drew fun e w'=>e=.returned (.int .i64 (er:Int))/\UpdM X w1 w' S1:=a0.mono fun e w' ⟨h1,X2,h2⟩=>⟨h1,UpdM.drew h2.updM⟩;subst d';have b6:=H_ b5;have b7:=H_ a4;have b8:=H_ Z;clear a0 a4 b5 b3 U Z hA a2 e0 e4 HB;go_wp2_with fail;refine wp_region_held_drew (S:=fun w'=>LgAt w' g X.d nm sz ct) rfl b6.out.drew (fun C=>?_);refine w_v 0 C ?_ (k:=kz22);go_simp;refine w_v 1 C ?_ (k:=kz22);go_simp;refine w_v 2 C ?_ (k:=kz22);go_simp;refine w_v 3 C ?_ (k:=kz22);go_simp;refine w_v 4 C ?_ (k:=kz22);go_simp;refine w_v 5 C ?_ (k:=kz22);go_simp;refine w_v 6 C ?_ (k:=kz22);go_simp;refine w_v 7 C ?_ (k:=kz22);go_simp;refine w_v 8 C ?_ (k:=kz22);go_simp;refine w_r 9 fun K hK=>?_;go_simp
 refine m_ b7 ?_
 rintro e w3 ⟨rfl,hu⟩;go_simp;refine hK.out _ _ (LgAt.upd b6.out hu a') ?_;clear C hK K;intro C;go_simp;refine w_v 10 C ?_ (k:=kz22);go_simp;refine w_d ?_;have E:=C;clear C b7;have b9:∃X',X'.d=X.d/\Dm w3 X' S1/\Chg X.foot w w3/\∀g∈X'.foot,g∈X.foot\/w.heap.size<=g:=by
  obtain⟨X2,q1,q2,q3,q4⟩:=hu;refine⟨X2,q1,q2,(Chg.of_below b8.out X.foot).trans q3 (fun g hg=>.inl hg),fun g hg=>?_⟩
  rcases q4 g hg with h1|h1
  ·exact .inl h1
  ·exact .inr (j_ b8.out.size h1)
 have HC:=H_ b9;clear b9 hu
 by_cases he:er=0
 ·subst he
  have d2:=E.c2;have d3:=E.c3;have f2:=E.free 2;have f3:=E.free 3;have h8:IntKind.i64.wrap ((sz:Int)+(J:Int))=((sz+J:Nat):Int):=by rw[D_ _ o_];omega
  have O:=E.store 2 (.int .i64 ((sz+J:Nat):Int));have d34:=O.cell 3;simp only[aJ_,aD_,gE0,gE1]at d34 O;have c':=jx4 g 3 (ct:Int) (w3.setCell ⟨g,2,none⟩ (.int .i64 ((sz+J:Nat):Int))) o_ o_ d34 (O.free 3);have a6:=O.store 3 (.int .i64 ((ct:Int)+1));simp only[aJ_,aD_]at a6;have a7:Chg [g] w3 ((w3.setCell ⟨g,2,none⟩ (.int .i64 ((sz+J:Nat):Int))).setCell ⟨g,3,none⟩ (.int .i64 ((ct:Int)+1))):=((Chg.refl _ w3).setCell _ (.inl s_)).setCell _ (.inl s_);have H:sv3 X g w nm sz ct J (S1,0) (.returned (.int .i64 0)) ((w3.setCell ⟨g,2,none⟩ (.int .i64 ((sz+J:Nat):Int))).setCell ⟨g,3,none⟩ (.int .i64 ((ct:Int)+1))):=by
   obtain⟨X2,q1,q2,q3,q4⟩:=HC.out;have d0:g∉X2.foot:=fun hm=>by
    rcases q4 g hm with h1|h1
    ·exact a' h1
    ·omega
   refine⟨rfl,X2,q1,q2.chg a7 (fun x hx=>by rw[a_.1 hx];exact⟨d0,d4⟩),(q3.mono (fun x hx=>.inl (e_ _ hx))).trans a7 (fun x hx=>.inl (by rw[a_.1 hx];exact i_)),q4,?_⟩;rw[if_pos rfl];exact a6
  have e6:=H_ c';have Q:=H_ H;clear c' H a7 a6 O E d34 HC;go_wp2_with fail;refine e6.out.mono ?_;rintro e w4 ⟨rfl,rfl⟩;go_wp2;go_ret;exact Q.out
 ·have h9:((er:Int)==0)=false:=by simp;omega
  have H:sv3 X g w nm sz ct J (S1,er) (.returned (.int .i64 (er:Int))) w3:=by
   obtain⟨X2,q1,q2,q3,q4⟩:=HC.out;refine⟨rfl,X2,q1,q2,q3.mono (fun x hx=>.inl (e_ _ hx)),q4,?_⟩;rw[if_neg he];exact E
  have Q:=H_ H;clear H E HC;go_wp2;go_ret;exact Q.out
section
open Go.ChangeShapes Go.WideShapes Go.Deep Go.Joins
theorem fv3 (W:World) (a:Addr) (len:Nat) (f:Nat->It) (h:∀i,i < len->∀j v,(f i).cells[j]?=some v->W.cell? (a.add (i *5+j))=some v):Row W.heap.size W (some a) len 5 (itc ((List.range len).map f)):=by
 have O:(itc ((List.range len).map f)).length=len *5:=by rw[jk];simp
 refine⟨O,fun j hj=>?_⟩;have hi:j / 5 < len:=o_
 have I:j % 5 < 5:=bP_ _ o_;have E:=jj2 ((List.range len).map f) (j / 5) (j % 5) (by simpa using hi) I;rw[show j / 5 *5+j % 5=j by omega]at E;simp only[co_,List.getElem_range]at E;have C:j % 5 < (f (j / 5)).cells.length:=by rw[It.gq];exact I
 have H:=h (j / 5) hi (j % 5) _ (h_ C);rw[show j / 5 *5+j % 5=j by omega]at H;have J:=M_ W _ H;rw[add_block]at J;refine⟨a,rfl,J,?_⟩;rw[H,<-h_ C,<-E,h_ hj]
end
end Go.Proofs.YtkdbagdiplpcfaaGreatDoor
