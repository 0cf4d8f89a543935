/- Some of the texts. No conditions. -/
import Derived.Test.YtfbkjjdfboagfaaGreatDoorBunAN
import Derived.Test.YtfbkjjdfboagfaaGreatDoorBunAL

set_option linter.unusedSimpArgs false
set_option linter.unusedVariables false
set_option maxRecDepth 100000
set_option maxHeartbeats 16000000
namespace Go.Proofs.YtfbkjjdfboagfaaGreatDoor
open Go.Proofs.Tryz Go Go.RowKit Go.Lib Go.Shelf
def slLen:Value->Nat
 |.slice _ n _=>n
 |_=>0
theorem zy2 {w:World} {L:Nat} {ns:List Nd} (h:SkAt w L ns):(its ns).length+1=ns.length:=by
 obtain⟨hd,tl,o,_⟩:=h.head;rw[o];simp[its]
theorem iz4 (L:Nat) (ns:List Nd) (w:World) (U:SkAt w L ns) (hn:ns.length<=1000000):
  Calls prog 232 #[L,.int .i64 1] w (sq1 w (its ns)):=by
 obtain⟨i0,b8,b9,b',c9⟩:=info_parts wz;obtain⟨hd,tl,a2,h6,hL⟩:=U.head;have l0:=hL.c0;have a4:ns[0]?=some hd:=by rw[a2];rfl
 have d5:=zy2 U;have d6:hd.h > 0:=o_
 obtain⟨n5,⟨nl,nf⟩,nc,d7⟩:=U.core.look a4 d6;have f7:(0:Int) < (hd.c:Int):=o_
 have f8:IntKind.i64.wrap 0=0:=by decide
 have o:=gq1 hd.tb 0 _ w nl (U.core.ptr 0 1);rw[qj3 U.tall]at o;obtain⟨l,hl⟩:=n_ (its ns);have H:∀k n,ns[k+1]?=some n->k < l.length/\l[k]?=some n.x:=fun k n h=>by
  have:=vq2 (ns:=ns) k;rw[h,<-hl]at this;exact⟨(C_.1 this).1,this⟩
 rw[<-hl]at d5;have d8:=H_ o;have HL:=H_ hl;have HG:=H_ H;have HS:=H_ U;clear o hl H U a2 h6 hL a4 nl nf nc d7;rw[<-HL.out];go_enter func232,ntmps232;go_wp2_with fail;refine d8.mono ?_;rintro e w1 ⟨rfl,d9⟩;subst d9;go_wp2_with fail
 go_loopw [5,6] (fun s p wr=>∃(k:Nat) (A2:Option Addr) (c2:Nat),k<=l.length/\s=.slice A2 k c2/\p=.pointer ((ns[k+1]?).map fun n=>⟨n.b,0,none⟩)/\Hid (wr.ownsRow w1 33 5 (.slice A2 k c2) k (itc (l.take k)))/\Below w1 w1 wr) (fun s _ _=>l.length - slLen s)
 case atStart=>exact⟨0,none,0,A_ _,rfl,rfl,H_ (G_ _ _ _ _),Below.refl _ _⟩
 case round=>
  obtain⟨k,A2,c2,hk,rfl,rfl,HQ,a0⟩:=hrel
  cases z:ns[k+1]? with
  |none=>
   have I:k=l.length:=by
    have:=List.getElem?_eq_none_iff.1 z;omega
   have hq:=HQ.out;rw[I,cb_]at hq;obtain⟨A3,c3,hv,a5,a6,J⟩:=ay hq;injection hv with e1 e2 e3;subst e1 e3;have O:Its w1 wr A2 l.length c2 l:=⟨Row.own hq,a5,a6,fun p hp=>(J p hp).1⟩;have e0:=H_ O;clear O hq J a5 a6 HQ;subst I;simp only[cH_];go_wp2;go_ret;exact⟨A2,_,c2,rfl,rfl,e0,a0⟩
  |some Q=>
   obtain⟨h7,a7⟩:=HG.out k Q z;have C:=HS.below a0;have E:=C.core.node Q (u_ z);have d0:=E.cell 0;have d1:=E.cell 1;have d2:=E.cell 2;have d3:=E.cell 3;have d4:=E.cell 4;simp only[It.cells,U_,D_,gE0,gE1]at d0 d1 d2 d3 d4;have a8:itc (l.take k)++Q.x.cells=itc (l.take (k+1)):=by
    rw[List.take_add_one,a7,vz];simp[itc]
   have a9:0 < Q.h:=HS.tall Q (u_ z);generalize e4:Q.x=x at *;have a':BoxO (wr.alloc (.cells #[x.s,x.k,[x.t],[x.v],x.x] 33)) 33 (wr:Nat) x.cells:=BoxO.new wr #[x.s,x.k,[x.t],[x.v],x.x] 33;have a1:=b_ wr (.cells #[x.s,x.k,[x.t],[x.v],x.x] 33);have b0:=own_below HQ.out a1;have b1:=az a0 a1;have HR:=H_ (rj1 a');have HO:=H_ b0;have HB:=H_ b1;have HX:=H_ a8;have HN:=H_ (d_ z a9);clear a' a1 b0 b1 HQ a8 C E a7 z a9 e4;simp only[aR_];go_wp2_with (at_builtin;refine iq ?_);refine gz (iy rfl (.tmp 34) (.tmp 39) _ rfl (w1:Nat) 33 i0 _ 5 40 underlying34 b8 b9 b' c9 rfl o_ w1 HB.out HB.size _ k (itc (l.take k)) rfl HO.out (wr.alloc (.cells #[x.s,x.k,[x.t],[x.v],x.x] 33)).heap.size _ 1 1 x.cells rfl HR.out (fun v hv=>ax1 [x] v (by simpa [itc] using hv)) (k+1) _ rfl HX.out (by unfold maxLen;omega) o_ ?_);intro A3 c3 w5 h1 h2 h3 h4 h5;have C:=HS.below h2;obtain⟨m5,⟨ml,mf⟩,mc,h9⟩:=C.core.look HN.1 HN.2;have h':(0:Int) < (Q.c:Int):=o_
   have o:=gq1 Q.tb 0 _ w5 ml (C.core.ptr 0 _);rw[qj3 HS.tall,Option.map_map]at o;have b2:=H_ o;have H5:=H_ h1;clear h1 h3 HX HR HO HB o ml mf C d0 d1 d2 d3 d4;go_wp2_with fail;refine b2.mono ?_;rintro e w7 ⟨rfl,e6⟩;subst e6;go_wp2;go_roundw
   case rel=>exact⟨k+1,A3,c3,o_,rfl,rfl,H5,h2⟩
   case measure=>simp[slLen];omega
theorem eq5 (L:Nat) (ns:List Nd) (w:World) (o:SkAt w L ns) (z:ns.length<=1000000):
  Calls prog 182 #[L] w (sq1 w (its ns)):=by
 have C:=H_ (iz4 L ns w o z);go_enter func182,ntmps182;go_wp2_with fail;refine C.mono ?_;rintro e w1 ⟨A',k,c',rfl,h1,h2,h3⟩;subst h1;go_wp2;go_ret;exact⟨A',_,c',rfl,rfl,h2,h3⟩
theorem hz5 (L:Nat) (ns:List Nd) (w:World) (C:SkAt w L ns):
  Calls prog 104 #[L] w fun e w'=>e=.returned (.int .i64 ((its ns).length:Int))/\w'=w:=by
 obtain⟨hd,tl,o,I,E⟩:=C.head;have z:=zy2 C;have H:=E.c1;have e:tl.length=(its ns).length:=by rw[o]at z ⊢;simp at z;omega
 rw[e]at H;clear z e o;go_enter func104,ntmps104;go_wp2;go_ret;exact⟨rfl,rfl⟩
structure MmAt (w:World) (m L:Nat) (ns:List Nd):Prop where
 box:∃sz:Int,BoxO w 164 m [L,.int .u32 0,.int .i32 0,.int .u32 0,.bool false,sz]
 sk:SkAt w L ns
 out:m∉skF L ns
variable {w w':World} {m L:Nat} {ns:List Nd}
theorem MmAt.chg {F:List Nat} (h:MmAt w m L ns) (c:Chg F w w') (hF:∀g∈m::skF L ns,g∉F):MmAt w' m L ns:=
 ⟨let ⟨sz,a⟩:=h.box;⟨sz,a.chg c (hF m p_)⟩,h.sk.chg c (fun g o=>hF g (f_ _ o)),h.out⟩
theorem MmAt.below (h:MmAt w m L ns) (c:Below w w w'):MmAt w' m L ns:=h.chg (Chg.of_below c []) (fun _ _=>by simp)
theorem lv2 (w:World):Calls prog 37 #[] w fun e w'=>∃m L ns,e=.returned (.pointer (some ⟨m,0,none⟩))/\MmAt w' m L ns/\its ns=[]/\Below w w w'/\∀g∈m::skF L ns,(w:Nat)<=g:=by
 have z:=H_ (kk5 w);go_enter func37,ntmps37;go_wp2_with fail;refine z.mono ?_;rintro e w1 ⟨L,ns,rfl,h1,h2,h3,h4⟩;have E:=H_ (d_ h1 (d_ h2 (d_ h3 h4)));clear h1 h2 h3 h4 z;go_wp2;go_ret;obtain⟨h1,h2,h3,h4⟩:=E.out;have C:=h3.size;refine⟨(w1:Nat),L,ns,rfl,⟨⟨0,BoxO.new _ _ _⟩,h1.below (b_ _ _),fun H=>?_⟩,h2,h3.alloc C _,fun g o=>?_⟩
 ·have:=h1.lt _ H
  omega
 ·rcases h_.1 o with rfl|o
  ·exact C
  ·exact h4 g o
theorem oq3 (h:MmAt w m L ns) (z:ns.length<=1000000):Calls prog 118 #[m] w (sq1 w (its ns)):=by
 obtain⟨sz,o⟩:=h.box;have c0:=o.c0;have C:=H_ (eq5 L ns w h.sk z);clear o h;go_enter func118,ntmps118;go_wp2_with fail;refine C.mono ?_;rintro e w1 ⟨A',k,c',rfl,h1,h2,h3⟩;subst h1;go_wp2;go_ret;exact⟨A',_,c',rfl,rfl,h2,h3⟩
theorem height_any (x:It) (hk:x.ok=true) (w:World):Calls prog 103 #[x.val] w fun e w'=>∃k:Nat,1<=k/\k<=6/\e=.returned (.int .i64 k)/\Below w w w':=by
 have z:=fun W=>nz4 x hk W;have J:=b_ w (.cells #[x.s,x.k,[x.t],[x.v],x.x] 33);unfold It.val at *;have C:=H_ z;have O:=H_ J;clear z J;go_enter func103,ntmps103;go_wp2_with fail;refine(C.out _).mono ?_;rintro e w1 ⟨A',c',rfl,Q,h1,h2,h3⟩;have U:=az O.out h3;have HH:=H_ (wq3 A' 10 c' x.key w1 o_ Q);clear Q h3 O C;go_wp2_with fail;refine HH.mono ?_;rintro e w2 ⟨rfl,rfl⟩;generalize (Fnv.hash x.key).toNat=o;clear HH;go_wp2_with fail
 go_loopw [3,4] (fun n h wr=>∃k o:Nat,1<=k/\k<=6/\n=.int .i64 k/\h=.int .u64 o/\wr=w1) (fun n _ _=>6 - (intOf n).toNat)
 case atStart=>exact⟨1,o,o_,o_,rfl,rfl,rfl⟩
 case round=>
  obtain⟨k,o,E,H,rfl,rfl,rfl⟩:=hrel;have a2:IntKind.i64.wrap ((k:Int)+1)=((k+1:Nat):Int):=by rw[M_ _ o_];omega
  obtain⟨b,a4⟩:∃b:Bool,(bits .and .u64 (o:Int) 3==0)=b:=⟨_,rfl⟩
  cases b with
  |false=>
   go_wp2;go_ret;exact⟨k,E,H,rfl,U⟩
  |true=>
   by_cases h6:k < 6
   ·have I:(k:Int) < 6:=o_
    go_wp2;go_roundw
    case rel=>exact⟨k+1,o / 4,o_,o_,rfl,by go_num,trivial⟩
    case measure=>simp[intOf];omega
   ·have I:((k:Int) < 6)=False:=eq_false o_
    go_wp2;go_ret;exact⟨k,E,H,rfl,U⟩
def ow5 (w:World) (m L:Nat) (ns:List Nd) (l:List It) (e:Ending) (w':World):Prop:=∃ns',e=.returned (.int .i64 0)/\MmAt w' m L ns'/\its ns'=l.foldl wput (its ns)/\Chg (m::skF L ns) w w'/\∀g∈skF L ns',g∈skF L ns\/(w:Nat)<=g
theorem aw5 (l:List It) (x:It):(wput l x).length<=l.length+1:=by
 unfold wput;split
 ·omega
 ·unfold put
  have h1:=aw_ (fun y=>It.less y x) l;rw[e_,r_];have:∀l:List It,(l.filter fun y=>It.less y x).length+(l.filter fun y=>It.less x y).length<=l.length:=by
   intro l
   induction l with
   |nil=>simp
   |cons a r o=>
    simp only[bv_]
    cases h2:It.less a x<;>cases h3:It.less x a
    ·simp;omega
    ·simp;omega
    ·simp;omega
    ·rw[It.bq1]at h2 h3;omega
  have:=this l;omega
theorem pk1:∀(b a:List It),(b.foldl wput a).length<=a.length+b.length
 |[],a=>by simp
 |x::b,a=>by
  have h1:=pk1 b (wput a x);have h2:=aw5 a x;simp only[aX_,r_];omega
theorem vz5 {w1 wr I E:World} {o z:List Nd} {R:List It} {x:It} (K:MmAt wr m L o/\its o=R/\Chg (m::skF L ns) w1 wr/\∀g∈skF L o,g∈skF L ns\/(w1:Nat)<=g)
  (J:Below wr wr I) (q1:SkAt E L z) (q2:its z=wput (its o) x) (Q:Chg (skF L o) I E) (U:∀g∈skF L z,g∈skF L o\/(I:Nat)<=g):
  MmAt E m L z/\its z=wput R x/\Chg (m::skF L ns) w1 E/\∀g∈skF L z,g∈skF L ns\/(w1:Nat)<=g:=by
 obtain⟨H,k2,k3,k4⟩:=K;obtain⟨sz,O⟩:=(H.below J).box;have a5:=k3.size;have a6:=J.size;have a7:m < (wr:Nat):=by
  obtain⟨sz,O⟩:=H.box;exact O.lt
 refine⟨⟨⟨sz,O.chg Q H.out⟩,q1,fun hm=>?_⟩,by rw[q2,k2],(k3.trans (Chg.of_below J (m::skF L ns)) (fun g C=>.inl C)).trans Q (fun g C=>?_),fun g C=>?_⟩
 ·rcases U m hm with h|h
  ·exact H.out h
  ·omega
 ·rcases k4 g C with h|h
  ·exact .inl (f_ _ h)
  ·exact .inr h
 ·rcases U g C with h|h
  ·exact k4 g h
  ·exact .inr o_
theorem dw2 (h:MmAt w m L ns) (A:Option Addr) (n c:Nat) (l:List It) (hn:n<=400000) (i9:(its ns).length<=400000) (hr:Row w w A n 5 (itc l)) (hA:∀a,A=some a->a.block≠m/\a.block∉skF L ns) (hk:l.all It.ok=true):
  Calls prog 44 #[m,.slice A n c] w (ow5 w m L ns l):=by
 have i':=hr.yw;obtain⟨sz,hb⟩:=h.box;have c4:=hb.c4;have a4:=vw1 100 (fun _ _=>rfl) #[] (fun x=>!x.ok) A n c l w o_ hr (fun x w1 _=>fw5 x w1);rw[wj2,hk]at a4;have b8:=H_ a4;have e7:=H_ hk;have H:=H_ h;clear a4 hk hb h;go_enter func44,ntmps44;go_wp2_with fail;refine b8.mono ?_;rintro e w1 ⟨rfl,I⟩;have h1:=H.below I;have e9:=(hr.below I).up I.size;have b9:=H_ I;have H1:=H_ h1;clear h1 I hr b8;go_wp2_with fail
 go_loopw [17] (fun s wr=>∃(k:Nat) (o:List Nd),k<=n/\s=.int .i64 k/\Hid (MmAt wr m L o/\its o=(l.take k).foldl wput (its ns)/\Chg (m::skF L ns) w1 wr/\∀g∈skF L o,g∈skF L ns\/(w1:Nat)<=g)) (fun s _=>n - (intOf s).toNat)
 case atStart=>exact⟨0,ns,A_ _,rfl,H_ ⟨H1,rfl,Chg.refl _ _,fun g J=>.inl J⟩⟩
 case round=>
  obtain⟨k,o,j2,rfl,O⟩:=hrel
  by_cases e':k < n
  ·have f0:(k:Int) < (n:Int):=o_
   have j3:IntKind.i64.wrap (k:Int)=(k:Int):=M_ _ o_;have b':Row w1 wr A n 5 (itc l):=O.2.2.1.row e9 l_ (fun a ha hm=>by
    rcases h_.1 hm with h2|h2
    ·exact(hA a ha).1 h2
    ·exact(hA a ha).2 h2)
   obtain⟨p,hl,rfl,j5,c0,c1,f1,c3,c4⟩:=b'.it e';have c9:l[k].ok=true:=by have:=e7.out;rw[Y_]at this;exact this _ (w_ hl)
   have d5:(l.take (k+1)).foldl wput (its ns)=wput ((l.take k).foldl wput (its ns)) l[k]:=by
    rw[v_ hl,aS_];rfl
   generalize l[k]=x at *;have f2:o.length<=1000000:=by
    have h2:=zy2 O.1.sk;have h3:=pk1 (l.take k) (its ns);rw[<-O.2.1,y_]at h3;omega
   have a5:=b_ wr (.cells #[x.s,x.k,[x.t],[x.v],x.x] 33);have z:BoxO (wr.alloc (.cells #[x.s,x.k,[x.t],[x.v],x.x] 33)) 33 (wr:Nat) x.cells:=BoxO.new wr #[x.s,x.k,[x.t],[x.v],x.x] 33;have d6:=O.1.below a5;have a6:=fun W=>height_any x c9 W;have a7:=fun W (hW:Below wr wr W) (h:Nat) h1 h6=>pj4 L h o x W (O.1.sk.below hW) c9 h1 h6 f2;obtain⟨d7,C⟩:=d6.box;have d8:∀w',Below wr wr w'->w'.cell? m=some (.pointer (some L)):=fun w' hw=>by
    obtain⟨j8,d9⟩:=(O.1.below hw).box;exact d9.cell 0
   have f3:∀w',Below ((wr:Nat)+1) (wr.alloc (.cells #[x.s,x.k,[x.t],[x.v],x.x] 33)) w'->w'.cell? (wr:Nat)=some (.int .i64 x.s)/\w'.cell? (wr,1)=some (.int .i64 x.k)/\w'.cell? (wr,2)=some (.int .u64 x.t)/\w'.cell? (wr,3)=some (.int .u64 x.v)/\w'.cell? (wr,4)=some (.int .i64 x.x):=fun w' hw=>by
    have e:=z.below (w':=w') (by simpa using hw);exact⟨e.cell 0,e.cell 1,e.cell 2,e.cell 3,e.cell 4⟩
   unfold It.val at a6 a7;have f4:=H_ a6;have f6:=H_ a7;have a9:=H_ a5;have d':=H_ z;have f7:=H_ d5;have KC:=H_ d8;have m0:=C.cell 0;have b0:=z.cell 0;have b1:=z.cell 1;have b2:=z.cell 2;have b3:=z.cell 3;have b4:=z.cell 4;simp only[It.cells,gE0,gE1]at b0 b1 b2 b3 b4 m0;obtain⟨U,hU⟩:=n_ (wr.alloc (.cells #[x.s,x.k,[x.t],[x.v],x.x] 33));have e0:∀w',Below U U w'->w'.cell? m=some (.pointer (some L))/\(w'.cell? (wr:Nat)=some (.int .i64 x.s)/\w'.cell? (wr,1)=some (.int .i64 x.k)/\w'.cell? (wr,2)=some (.int .u64 x.t)/\w'.cell? (wr,3)=some (.int .u64 x.v)/\w'.cell? (wr,4)=some (.int .i64 x.x)):=fun w' hw=>by
    rw[hU]at hw;have e:=z.below hw;have e2:=(C.below hw).cell 0;exact⟨e2,e.cell 0,e.cell 1,e.cell 2,e.cell 3,e.cell 4⟩
   rw[<-hU]at m0 b0 b1 b2 b3 b4 d' a9;have KZ:=H_ e0;have HU:=hU.symm;clear a6 a7 a5 z d5 d8 f3 C d6 b' hU e0 d' KC;go_wp2_with fail;clear HU c0 c1 f1 c3 c4
   go_region_with (first
    |(go_at_call 103;refine(f4.out _).mono ?_;rintro e w7 ⟨hh,f9,g8,rfl,a0⟩;have Q:=(ax (Below.refl U U)).trans a0;obtain⟨m1,d0,d1,d2,d3,d4⟩:=KZ.out w7 Q)
    |(go_at_call 102;refine(f6.out _ (az a9.out Q) hh f9 g8).mono ?_;rintro e w8 ⟨bb,g',rfl,q1,q2,q3,q4⟩))
   all_goals
    have E:=vz5 O.out (az a9.out Q) q1 q2 q3 q4;rw[<-f7.out]at E;have a':=H_ E;clear E q1 q2 q3 q4 Q a0 m1 d0 d1 d2 d3 d4;go_wp2;go_roundw
    case rel=>exact⟨k+1,g',o_,by go_num,a'⟩
    case measure=>simp[intOf];omega
  ·have f0:((k:Int) < (n:Int))=False:=eq_false o_
   have a1:l.take k=l:=i_ o_;have e1:=O.out;rw[a1]at e1;obtain⟨g1,g2,g3,g4⟩:=e1;obtain⟨d7,C⟩:=g1.box;have m0:=C.c0;have m5:=C.c5;have f5:=C.free 5;obtain⟨N,hN⟩:=n_ ((its o).length);have k6:N<=800000:=by
    have h3:=pk1 l (its ns);rw[<-g2]at h3;omega
   have i8:IntKind.i64.wrap ((N:Int)*28)=(N:Int)*28:=M_ _ o_;have b5:=hz5 L o wr.drew (g1.sk.chg (F:=[]) (Chg.refl _ wr).drew (fun _ _=>by simp));rw[<-hN]at b5;have E:=sk1 m 5 d7 ((N:Int)*28) wr.drew m5 f5;have b6:=tq wr.drew ⟨m,5,none⟩ (.int .i64 ((N:Int)*28));have b7:=C.drew.store 5 (.int .i64 ((N:Int)*28));simp only[T_,Q_]at b7;have a2:ow5 w m L ns l (.returned (.int .i64 0)) (wr.drew.setCell (m,5) (.int .i64 ((N:Int)*28))):=by
    refine⟨o,rfl,⟨⟨_,b7⟩,(g1.sk.chg (F:=[]) (Chg.refl _ wr).drew (fun _ _=>by simp)).chg b6 (fun g J e=>g1.out ((c_.1 e:g=m)▸J)),g1.out⟩,g2,?_,fun g J=>?_⟩
    ·exact((Chg.of_below b9.out (m::skF L ns)).trans (g3.drew) (fun g J=>.inl J)).trans b6 (fun g J=>.inl (by rw[(c_.1 J:g=m)];exact p_))
    ·rcases g4 g J with h2|h2
     ·exact .inl h2
     ·exact .inr (g_ b9.size h2)
   have h0:=H_ b5;have a':=H_ E;have e3:=H_ a2;clear b5 E b6 b7 a2 g1 g2 g3 g4 C O hN a1;go_wp2_with fail
   go_region_with (first
    |(go_at_call 104;refine h0.mono ?_;rintro e w7 ⟨rfl,rfl⟩)
    |(go_at_call 91;refine a'.mono ?_;rintro e w8 ⟨rfl,rfl⟩))
   all_goals
    go_wp2;go_ret;exact e3
end Go.Proofs.YtfbkjjdfboagfaaGreatDoor
