/- Some of the texts. No conditions. -/
import Derived.Test.YtkdbagdiplpcfaaGreatDoorBunAV
import Derived.Test.YtkdbagdiplpcfaaGreatDoorBunAX

set_option linter.unusedSimpArgs false
set_option linter.unusedVariables false
set_option maxRecDepth 100000
set_option maxHeartbeats 16000000
namespace Go.Proofs.YtkdbagdiplpcfaaGreatDoor
open Go.Proofs.Tryz Go Go.RowKit Go.Lib Go.Shelf
theorem yx4 (f:Nat) (rs:List (List It)) (w:World) (h:TbAt w f rs):
  Calls prog 86 #[.pointer (some ⟨f,0,none⟩)] w fun e w'=>e=.returned (.int .i64 (rs.flatten.length:Int))/\w'=w:=by
 obtain⟨P,n,c,cnt,C,E,H,I,J,-⟩:=h;rw[<-C];have b1:=E.c1;clear J E C;go_enter func86,ntmps86;go_wp2;go_ret;exact⟨rfl,rfl⟩
theorem zv3 (f:Nat) (rs:List (List It)) (w:World) (h:TbAt w f rs) (O:Tb.Full rs):
  Calls prog 87 #[.pointer (some ⟨f,0,none⟩)] w fun e w'=>e=.returned (.tuple #[(Tb.first rs).val,.bool true])/\Below w.heap.size w w':=by
 obtain⟨P,n,c,cnt,H,I,a4,a5,Q,-⟩:=h;have E:=b_ w (.cells #[.int .i64 0,.int .i64 0,.int .u64 0,.int .u64 0,.int .i64 0] 49);have C:=BoxO.new w #[.int .i64 0,.int .i64 0,.int .u64 0,.int .u64 0,.int .i64 0] 49;have b0:=(I.below E).c0;have b1:=(I.below E).c1;have J:=O.cnt;rw[<-H]at J;have e1:((cnt:Int)==0)=false:=by simp;omega
 obtain⟨h0,h1,hx⟩:=O.fst;have U:=Q.len;obtain⟨a,A,k,d,hl,rfl,a8,Z,a9,a',hrow⟩:=(Q.below E).at_ (i:=0) o_;have a0:=hrow.qj;obtain⟨p,a1,rfl,b2,c0,c1,c2,c3,c4⟩:=hrow.it (k:=0) o_;rw[hx]at c0 c1 c2 c3 c4;rw[mw1]at c0 c1 c2 c3 c4;rw[bw3]at Z;generalize Tb.first rs=x at *
 unfold It.val;have z0:=C.free 0;have z1:=C.free 1;have z2:=C.free 2;have z3:=C.free 3;have z4:=C.free 4;have s0:=C.c0;have s1:=C.c1;have s2:=C.c2;have s3:=C.c3;have s4:=C.c4;have b3:0 < k:=o_
 have b5:0 < n:=o_
 have HB:=H_ E;clear Q I H C E J O hx hrow a0 U hl a1 h0 h1;go_enter func87,ntmps87;go_wp2;refine bodyPost_ret (v:=.tuple #[.agg #[.int .i64 x.s,.int .i64 x.k,.int .u64 (x.t:Int),.int .u64 (x.v:Int),.int .i64 x.x],.bool true]) (by simp[results,go_sem, *]) rfl ⟨rfl,?_⟩;exact b_ _ _
theorem jk4 (f:Nat) (rs:List (List It)) (w:World) (h:TbAt w f rs) (Q:Tb.Full rs) (J:rs.length<=1000000/\rs.flatten.length<=1000000):
  Calls prog 88 #[.pointer (some ⟨f,0,none⟩)] w fun e w'=>e=.returned (.tuple #[(Tb.last rs).val,.bool true])/\Below w.heap.size w w':=by
 obtain⟨P,n,c,cnt,H,I,a9,a',U,-⟩:=h;have E:=b_ w (.cells #[.int .i64 0,.int .i64 0,.int .u64 0,.int .u64 0,.int .i64 0] 49);have C:=BoxO.new w #[.int .i64 0,.int .i64 0,.int .u64 0,.int .u64 0,.int .i64 0] 49;have b0:=(I.below E).c0;have b1:=(I.below E).c1;have O:=Q.cnt;rw[<-H]at O;have e1:((cnt:Int)==0)=false:=by simp;omega
 obtain⟨m,j,h0,h1,Z,a0,hx⟩:=Q.lst;have a1:=U.len;obtain⟨a,A,k,d,hl,rfl,b3,b5,b6,b7,hrow⟩:=(U.below E).at_ (i:=m) o_;have a2:=hrow.qj;obtain⟨p,a4,rfl,b8,c0,c1,c2,c3,c4⟩:=hrow.it (k:=j) o_;rw[hx]at c0 c1 c2 c3 c4;have a5:rs[m].length<=rs.flatten.length:=(List.sublist_flatten_of_mem (u_ h0)).length_le;have b9:(n:Int) - 1=(m:Int):=o_
 have b':(k:Int) - 1=(j:Int):=o_
 have c9:IntKind.i64.wrap (m:Int)=(m:Int):=D_ _ o_;have c':IntKind.i64.wrap (j:Int)=(j:Int):=D_ _ o_;have d0:m < n:=o_
 have d1:j < k:=o_
 generalize Tb.last rs=x at *;unfold It.val;have z0:=C.free 0;have z1:=C.free 1;have z2:=C.free 2;have z3:=C.free 3;have z4:=C.free 4;have s0:=C.c0;have s1:=C.c1;have s2:=C.c2;have s3:=C.c3;have s4:=C.c4;have HB:=H_ E;clear U I H C E O Q hx hrow a2 a1 hl a4 h0 h1 a5 J Z a0;go_enter func88,ntmps88;go_wp2
 go_quiet (fail)
 go_wp2;refine bodyPost_ret (v:=.tuple #[.agg #[.int .i64 x.s,.int .i64 x.k,.int .u64 (x.t:Int),.int .u64 (x.v:Int),.int .i64 x.x],.bool true]) (by simp[results,go_sem, *]) rfl ⟨rfl,?_⟩;exact(below_drewN HB.out _).trans ((cg5 w.heap.size _ _ _ _ _ _).below HB.out.size s_)
theorem xx5:(prog.info? 152).map (fun i=>(i.zero,i.size,i.bytes))=some (some (.agg #[.int .i64 0,.int .i64 0,.slice none 0 0,.slice none 0 0,.int .i64 0]),5,72):=by kernel_rfl
def hdT (t:(Int×Int)×List (List It)):Hd:=⟨t.1.2,t.1.1,(Tb.first t.2).key,(Tb.last t.2).key,(t.2.flatten.length:Int)⟩
def hdOf (p:Tq):Hd:=hdT p.1
def HOwn (b:Nat) (W:World) (hs:List Hvf):Prop:=∀h∈hs,W.ownsRow b 5 1 (.slice h.fa h.fn h.fc) h.fn (bts h.hd.first)/\W.ownsRow b 5 1 (.slice h.la h.ln h.lc) h.ln (bts h.hd.last)
theorem HOwn.below {b:Nat} {W C:World} {hs:List Hvf} (h:HOwn b W hs) (E:Below W.heap.size W C):HOwn b C hs:=fun x H=>⟨own_below (h x H).1 E,own_below (h x H).2 E⟩
theorem yy2 {W:World} {b b' n c m d:Nat} {A B:Option Addr} {xs ys:List Value} (h:W.ownsRow b 152 5 (.slice A n c) n xs) (k:W.ownsRow b' 5 1 (.slice B m d) m ys):∀g,(Value.slice B m d).ownBlock=some g->g∉(Value.slice A n c).ownBlock.toList:=by
 intro g I E
 cases A with
 |none=>cases E
 |some a=>
  cases B with
  |none=>cases I
  |some b=>
   obtain⟨J,cur,e1,_,O,_⟩:=fk1 h;obtain⟨g2,H,e2,_,Q,_⟩:=fk1 k;subst e1 e2;rw[a7_]at E;injection I with I;injection E with E;have U:g2=g:=I;have Z:J=g:=E;subst U;subst Z;have h':W.heap[J]?=some (.cells cur.toArray 152 (0,0)):=O;have C:W.heap[J]?=some (.cells H.toArray 5 (0,0)):=Q;rw[h']at C;injection C with C;injection C with _ C
   cases C
theorem HOwn.grown {b J n c:Nat} {W E:World} {A:Option Addr} {xs:List Value} {hs:List Hvf} (h:HOwn b W hs) (H:W.ownsRow J 152 5 (.slice A n c) n xs) (O:W.grownBy E (Value.slice A n c).ownBlock):HOwn b E hs:=fun x C=>by
 have I:Chg (Value.slice A n c).ownBlock.toList W E:=Chg.qy O (fun b Q=>by rw[Q];simp);exact⟨jy (h x C).1 I (yy2 H (h x C).1),jy (h x C).2 I (yy2 H (h x C).2)⟩
theorem HOwn.snoc {b:Nat} {W:World} {hs:List Hvf} {x:Hvf} (h:HOwn b W hs) (C:HOwn b W [x]):HOwn b W (hs++[x]):=fun y E=>by
 rcases k_.1 E with q|q
 ·exact h y q
 ·exact C y q
theorem kz34 {P S a oi v} (h:Hv P S a oi v:=by intro w C;(have k0:=C.1.c0;have k1:=C.1.c1;have k2:=C.1.c2);go_simp;try (with_reducible rfl)):Hv P S a oi v:=h
theorem kz35 {P S a oi v} (h:Hv P S a oi v:=by intro w C;(have x0:=C.1.cell 0;have x1:=C.1.cell 1;have x2:=C.1.cell 2;have x3:=C.1.cell 3;have x4:=C.1.cell 4;have y0:=C.2.1.cell 0;have y1:=C.2.1.cell 1;have y2:=C.2.1.cell 2;have y3:=C.2.1.cell 3;have y4:=C.2.1.cell 4;simp only[It.cells,gE0,gE1]at x0 x1 x2 x3 x4 y0 y1 y2 y3 y4);go_simp;try (with_reducible rfl)):Hv P S a oi v:=h
theorem kz36 {P S a oi v} (h:Hv P S a oi v:=by intro w C;go_simp;try (with_reducible rfl)):Hv P S a oi v:=h
theorem mj4 (s n c:Nat) (A:Option Addr) (q:List Tq) (w:World) (o6:w.cell? ⟨s,4,none⟩=some (.slice A n c)) (hr:Row w.heap.size w A n 3 (hcells q)) (ht:∀p∈q,TbAt w p.2 p.1.2) (hf:∀p∈q,Tb.Full p.1.2/\p.1.2.flatten.length<=1000000) (j3:∀p∈q,∀x∈p.1.2.flatten,x.ok=true) (hn:n<=100000):
  Calls prog 25 #[.pointer (some ⟨s,0,none⟩)] w fun e w'=>∃A' c' hs,e=.returned (.slice A' n c')/\lj1 w'.heap.size w' A' n hs/\hs.map (·.hd)=q.map hdOf/\Below w.heap.size w w':=by
 obtain⟨i0,l7,l8,l9,l'⟩:=info_parts xx5;have m0:q.length=n:=by have:=hr.len;rw[tq]at this;omega
 have HR:=H_ (c_ hr (c_ ht (c_ hf j3)));clear hr ht hf j3;go_enter func25,ntmps25;go_wp2
 go_loopw [3,16] (fun o i wr=>∃(k:Nat) (A2:Option Addr) (c2:Nat) (hs:List Hvf),k<=n/\o=.slice A2 k c2/\i=.int .i64 (k:Int)/\Hid (hs.map (·.hd)=(q.take k).map hdOf/\wr.ownsRow w.heap.size 152 5 (.slice A2 k c2) k (hs.flatMap Hvf.cs)/\HOwn w.heap.size wr hs)/\Below w.heap.size w wr) (fun _ i _=>n - (intOf i).toNat)
 case atStart=>exact⟨0,none,0,[],w_ _,rfl,rfl,H_ ⟨rfl,E_ _ _ _ _,fun x hx=>by cases hx⟩,Below.refl _ _⟩
 case round=>
  obtain⟨k,A2,c2,hs,hk,rfl,rfl,HQ,Q⟩:=hrel
  by_cases o9:k < n
  ·have h7:k < q.length:=o_
   have m1:(k:Int) < (n:Int):=o_
   obtain⟨a,rfl,m2,j4,j5,j6⟩:=oq3 HR.out.1 h7;have hm:q[k]∈q:=u_ h7;have j7:=HR.out.2.1 _ hm;have Z:=HR.out.2.2.1 _ hm;have h8:=HR.out.2.2.2 _ hm;have j8:q.take (k+1)=q.take k++[q[k]]:=by rw[r_ h7]
   generalize q[k]=p at *;have b6:(a.add (k *3)).block < w.heap.size:=by rw[add_block];exact m2
   have c0:=(Q.cell (p:=a.add (k *3)) b6).trans j4;have c1:=(Q.cell (p:=⟨(a.add (k *3)).block,(a.add (k *3)).off+1,none⟩) b6).trans j5;have o':=(Q.cell (p:=⟨(a.add (k *3)).block,(a.add (k *3)).off+2,none⟩) b6).trans j6;have b7:=b_ wr (.cells #[.int .i64 p.1.1.1,.int .i64 p.1.1.2,.pointer (some ⟨p.2,0,none⟩)] 92);have h9:=BoxO.new wr #[.int .i64 p.1.1.1,.int .i64 p.1.1.2,.pointer (some ⟨p.2,0,none⟩)] 92;obtain⟨U,hU⟩:=n_ (wr.alloc (.cells #[.int .i64 p.1.1.1,.int .i64 p.1.1.2,.pointer (some ⟨p.2,0,none⟩)] 92));rw[<-hU]at b7 h9;have j9:U.heap.size=wr.heap.size+1:=by rw[hU,Q_]
   obtain⟨ln,a8⟩:=n_ p.1.2.flatten.length;have h':=fun W' (h:TbAt W' p.2 p.1.2)=>yx4 p.2 p.1.2 W' h;rw[<-a8]at h';have i1:=fun W' (h:TbAt W' p.2 p.1.2)=>zv3 p.2 p.1.2 W' h Z.1;have i2:=fun W' (h:TbAt W' p.2 p.1.2)=>jk4 p.2 p.1.2 W' h Z.1 ⟨j_ Z.1.short Z.2,Z.2⟩;have i3:=fun W'=>uk2 (Tb.first p.1.2) (h8 _ Z.1.mem.1) W';have i4:=fun W'=>uk2 (Tb.last p.1.2) (h8 _ Z.1.mem.2) W';have j':=(j7.below Q).below b7;have k3:hdOf p=⟨p.1.1.2,p.1.1.1,(Tb.first p.1.2).key,(Tb.last p.1.2).key,(ln:Int)⟩:=by rw[a8];rfl
   generalize Tb.first p.1.2=x at *
   generalize Tb.last p.1.2=y at *;unfold It.val at i1 i2 i3 i4;have b8:=H_ h';have d8:=H_ i1;have d9:=H_ i2;have d':=H_ i3;have e5:=H_ i4;have I:=H_ (c_ j' (c_ h9 b7));have p0:=H_ j9;have i5:=H_ b7;have i6:=H_ (c_ j8 k3);have HU:=H_ hU;clear h' i1 i2 i3 i4 j' h9 b7 j9 j8 j7 Z h8 hm j4 j5 j6 a8 k3 hU;go_upto_region 5 with (fail)
   rw[<-HU.out];generalize wr.heap.size=g5 at I
   go_cut [6] from 17 to 53 (fun s wx=>∃J,s=.pointer (some ⟨J,0,none⟩)/\U.heap.size<=J/\BoxO wx 152 J [.int .i64 p.1.1.2,.int .i64 p.1.1.1,.slice none 0 0,.slice none 0 0,.int .i64 (ln:Int)]/\Below U.heap.size U wx)
   case first=>
    refine wp_region_held_drew (S:=fun w'=>BoxO w' 92 g5 [.int .i64 p.1.1.1,.int .i64 p.1.1.2,.pointer (some ⟨p.2,0,none⟩)]/\TbAt w' p.2 p.1.2/\Below U.heap.size U w') rfl ⟨I.out.2.1,I.out.1.below (ak b0_),ak b0_⟩ (fun C=>?_);refine w_v 0 C ?_ (k:=kz34);go_simp;refine w_v 1 C ?_ (k:=kz34);go_simp;refine w_v 2 C ?_ (k:=kz34);go_simp;refine w_v 3 C ?_ (k:=kz34);go_simp;refine w_v 4 C ?_ (k:=kz34);go_simp;refine w_v 5 C ?_ (k:=kz34);go_simp;refine w_v 6 C ?_ (k:=kz34);go_simp;refine w_v 7 C ?_ (k:=kz34);go_simp;refine wpAnyH_ready (rs:=[8,10]) (by kernel_rfl) s_ ?_;refine AllReadyH.cons rfl (fun K E=>?_) (AllReadyH.cons rfl (fun K E=>?_) AllReadyH.nil)
    ·go_simp
     with_reducible refine(b8.out _ C.2.1).mono ?_
     rintro e w3 ⟨rfl,rfl⟩;go_simp;refine E.out _ _ C ?_;clear C E K;intro C;go_simp
     (refine w_v 9 C ?_ (k:=kz36);go_simp)
     refine w_r 10 fun K E=>?_
     ·go_simp
      refine E.out _ _ ⟨C.1.alloc _,C.2.1.below (b_ _ _),C.2.2.alloc C.2.2.size _⟩ ?_;clear C E K;intro C;go_simp;refine w_r 11 fun K E=>?_
      skip
      go_simp;refine E.out _ _ ⟨I.out.2.1.alloc _,I.out.1.below (ak (b_ _ _)),ak (b_ _ _)⟩ ?_;clear C E K;intro C;go_simp;refine w_d ?_;have a4:=C;clear C b8 d8 d9 d' e5 I HR HQ;go_wp2_with fail
      go_meet
      exact⟨_,rfl,y_ _,BoxO.new U #[.int .i64 p.1.1.2,.int .i64 p.1.1.1,.slice none 0 0,.slice none 0 0,.int .i64 (ln:Int)] 152,a4.2.2⟩
    ·go_simp
     refine E.out _ _ ⟨C.1.alloc _,C.2.1.below (b_ _ _),C.2.2.alloc C.2.2.size _⟩ ?_;clear C E K;intro C;go_simp;refine w_r 8 fun K E=>?_
     ·go_simp
      with_reducible refine(b8.out _ C.2.1).mono ?_
      rintro e w3 ⟨rfl,rfl⟩;go_simp;refine E.out _ _ C ?_;clear C E K;intro C;go_simp
      (refine w_v 9 C ?_ (k:=kz36);go_simp)
      refine w_r 11 fun K E=>?_
      skip
      go_simp;refine E.out _ _ ⟨I.out.2.1.alloc _,I.out.1.below (ak (b_ _ _)),ak (b_ _ _)⟩ ?_;clear C E K;intro C;go_simp;refine w_d ?_;have a4:=C;clear C b8 d8 d9 d' e5 I HR HQ;go_wp2_with fail
      go_meet
      exact⟨_,rfl,y_ _,BoxO.new U #[.int .i64 p.1.1.2,.int .i64 p.1.1.1,.slice none 0 0,.slice none 0 0,.int .i64 (ln:Int)] 152,a4.2.2⟩
   case rest=>
    obtain⟨J,rfl,k4,O,e6⟩:=hcut;have a9:=I.out.2.1.below e6;have a':=I.out.1.below e6;have k2:=a9.c2;have HF:=H_ (d8.out _ a');have b0:=H_ (c_ a9 (c_ a' (c_ O e6)));have i7:=H_ k4;clear a9 a' O e6 k4 d8 b8 I;go_wp2_with fail;refine HF.out.mono ?_;rintro e w7 ⟨rfl,b1⟩;have b9:=b_ w7 (.cells #[.int .i64 x.s,.int .i64 x.k,.int .u64 (x.t:Int),.int .u64 (x.v:Int),.int .i64 x.x] 49);have a9:=(b0.out.1.below b1).below b9;have a':=(b0.out.2.1.below b1).below b9;have O:=(b0.out.2.2.1.below b1).below b9;have i8:=H_ (b0.out.2.2.1.below b1).lt;have b2:=az (az b0.out.2.2.2 b1) b9;have a5:=BoxO.new w7 #[.int .i64 x.s,.int .i64 x.k,.int .u64 (x.t:Int),.int .u64 (x.v:Int),.int .i64 x.x] 49;have k2:=a9.c2;have HL:=H_ (d9.out _ a');have e7:=H_ (c_ a5 (c_ O b2));clear a9 a' O b2 a5 b9 b1 b0 HF d9;go_wp2_with fail;refine HL.out.mono ?_;rintro e w9 ⟨rfl,b'⟩;have a7:=b_ w9 (.cells #[.int .i64 y.s,.int .i64 y.k,.int .u64 (y.t:Int),.int .u64 (y.v:Int),.int .i64 y.x] 49);have a5:=(e7.out.1.below b').below a7;have O:=(e7.out.2.1.below b').below a7;have b2:=az (az e7.out.2.2 b') a7;have e9:=BoxO.new w9 #[.int .i64 y.s,.int .i64 y.k,.int .u64 (y.t:Int),.int .u64 (y.v:Int),.int .i64 y.x] 49;have i9:w7.heap.size < w9.heap.size:=N_ s_ b'.size;obtain⟨W9,f5⟩:=n_ (w9.alloc (.cells #[.int .i64 y.s,.int .i64 y.k,.int .u64 (y.t:Int),.int .u64 (y.v:Int),.int .i64 y.x] 49));obtain⟨g7,i'⟩:=n_ w7.heap.size;obtain⟨g9,f6⟩:=n_ w9.heap.size;have k8:W9.heap.size=g9+1:=by rw[f5,f6];simp
    rw[<-f5]at a5 O b2 e9;rw[<-i']at a5 i9;rw[<-f6]at e9 i9;have H:Hid (BoxO W9 49 g7 x.cells/\BoxO W9 49 g9 y.cells/\BoxO W9 152 J [.int .i64 p.1.1.2,.int .i64 p.1.1.1,.slice none 0 0,.slice none 0 0,.int .i64 (ln:Int)]/\Below U.heap.size U W9):=H_ ⟨a5,e9,O,b2⟩;have HN:Hid (g7∉[J]/\g9∉[J]/\J < W9.heap.size/\W9.heap.size=g9+1):=H_ ⟨by have:=i8.out;simp;omega,by have:=i8.out;simp;omega,by have:=i8.out;omega,k8⟩;have j0:=H_ (c_ f5 (c_ i' f6));clear a5 O e9 b2 a7 b' i9 f5 i' f6 k8 e7 HL k2;go_wp2_with fail;rw[<-j0.out.1,<-j0.out.2.1,<-j0.out.2.2];refine wp_region_held_drew (S:=fun w'=>BoxO w' 49 g7 x.cells/\BoxO w' 49 g9 y.cells/\(∃cs:List Value,cs.length=5/\BoxO w' 152 J cs)/\Below U.heap.size U w') rfl ⟨H.out.1,H.out.2.1,⟨_,rfl,H.out.2.2.1⟩,ak H.out.2.2.2⟩ (fun C=>?_);refine w_v 0 C ?_ (k:=kz35);go_simp;refine w_v 2 C ?_ (k:=kz35);go_simp;refine w_r 1 fun K E=>?_;go_simp
    with_reducible refine(d'.out _).mono ?_
    rintro e wa ⟨A3,d3,rfl,j1,-,-,b3⟩;go_simp;refine E.out _ _ ⟨C.1.below b3,C.2.1.below b3,(let ⟨cs,q1,q2⟩:=C.2.2.1;⟨cs,q1,q2.below b3⟩),az C.2.2.2 b3⟩ ?_;clear C E K;intro C;go_simp;refine w_v 4 C ?_ (k:=kz35);go_simp;refine w_r 3 fun K E=>?_;go_simp
    with_reducible refine(e5.out _).mono ?_
    rintro e wb ⟨A4,d4,rfl,j2,-,-,a6⟩;go_simp;refine E.out _ _ ⟨C.1.below a6,C.2.1.below a6,(let ⟨cs,q1,q2⟩:=C.2.2.1;⟨cs,q1,q2.below a6⟩),az C.2.2.2 a6⟩ ?_;clear C E K;intro C;go_simp;refine w_r 5 fun K E=>?_
    (have f7:=az (ak (Below.refl W9.heap.size W9)) b3;have c9:=(H.out.2.2.1.below f7).below a6;have s2:=c9.c2;have z2:=c9.free 2)
    go_simp;refine E.out _ _ ⟨C.1.chg ((Chg.refl [J] _).setCell _ (.inl s_)) HN.out.1,C.2.1.chg ((Chg.refl [J] _).setCell _ (.inl s_)) HN.out.2.1,⟨_,rfl,c9.store 2 _⟩,C.2.2.2.setCell (p:=⟨J,2,none⟩) i7.out _⟩ ?_;clear C E K;intro C;go_simp;refine w_v 6 C ?_ (k:=kz35);go_simp;refine w_r 7 fun K E=>?_
    (have d0:=c9.store 2 (.slice A3 10 d3);have s3:=d0.cell 3;have z3:=d0.free 3;simp only[List.set,gE0,gE1]at s3)
    go_simp;refine E.out _ _ ⟨C.1.chg ((Chg.refl [J] _).setCell _ (.inl s_)) HN.out.1,C.2.1.chg ((Chg.refl [J] _).setCell _ (.inl s_)) HN.out.2.1,⟨_,rfl,d0.store 3 _⟩,C.2.2.2.setCell (p:=⟨J,3,none⟩) i7.out _⟩ ?_;clear C E K;intro C;go_simp;refine w_d ?_;have a0:=d0.store 3 (.slice A4 10 d4);simp only[List.set]at a0;have d1:=C.2.2.2;obtain⟨W4,f8⟩:=n_ ((wb.setCell ⟨J,2,none⟩ (.slice A3 10 d3)).setCell ⟨J,3,none⟩ (.slice A4 10 d4));have d2:Chg [J] wb W4:=by rw[f8];exact((Chg.refl [J] _).setCell _ (.inl s_)).setCell _ (.inl s_)
    rw[<-f8]at a0 d1;have g8:W4.ownsRow w.heap.size 5 1 (.slice A3 10 d3) 10 (bts x.key):=own_base (jy (own_below j1 a6) d2 (fun g hg hm=>by
     have q1:=(j1.lt g hg).1;rw[a_.1 hm]at q1;exact Nat.lt_irrefl _ (N_ HN.out.2.2.1 q1))) (j_ Q.size (j_ i5.out.size H.out.2.2.2.size))
    have g':W4.ownsRow w.heap.size 5 1 (.slice A4 10 d4) 10 (bts y.key):=own_base (jy j2 d2 (fun g hg hm=>by
     have q1:=(j2.lt g hg).1;rw[a_.1 hm]at q1;exact Nat.lt_irrefl _ (N_ HN.out.2.2.1 (j_ f7.size q1)))) (j_ Q.size (j_ i5.out.size (j_ H.out.2.2.2.size f7.size)))
    have f9:Below wr.heap.size wr W4:=az i5.out d1;have e0:=a0.c0;have e1:=a0.c1;have e2:=a0.c2;have e3:=a0.c3;have e4:=a0.c4;have f':=b_ W4 (.cells #[.int .i64 p.1.1.2,.int .i64 p.1.1.1,.slice A3 10 d3,.slice A4 10 d4,.int .i64 (ln:Int)] 152);have d5:Row (W4.alloc (.cells #[.int .i64 p.1.1.2,.int .i64 p.1.1.1,.slice A3 10 d3,.slice A4 10 d4,.int .i64 (ln:Int)] 152)).heap.size (W4.alloc (.cells #[.int .i64 p.1.1.2,.int .i64 p.1.1.1,.slice A3 10 d3,.slice A4 10 d4,.int .i64 (ln:Int)] 152)) (some ⟨W4.heap.size,0,none⟩) 1 5 (Hvf.cs ⟨hdOf p,A3,10,d3,A4,10,d4⟩):=by
     have e:Hvf.cs ⟨hdOf p,A3,10,d3,A4,10,d4⟩=[.int .i64 p.1.1.2,.int .i64 p.1.1.1,.slice A3 10 d3,.slice A4 10 d4,.int .i64 (ln:Int)]:=by
      unfold Hvf.cs;rw[i6.out.2]
     rw[e];exact(Row.new W4 #[.int .i64 p.1.1.2,.int .i64 p.1.1.1,.slice A3 10 d3,.slice A4 10 d4,.int .i64 (ln:Int)] 152 (n:=1) (size:=5) rfl).up s_
    have HO:=H_ (own_below (own_below HQ.out.2.1 f9) f');have k9:=H_ d5;have k':Hid (HOwn w.heap.size (W4.alloc (.cells #[.int .i64 p.1.1.2,.int .i64 p.1.1.1,.slice A3 10 d3,.slice A4 10 d4,.int .i64 (ln:Int)] 152)) (hs++[⟨hdOf p,A3,10,d3,A4,10,d4⟩])):=H_ (((HQ.out.2.2.below f9).snoc (fun q hq=>by
     rw[a_.1 hq];simp only;rw[i6.out.2];exact⟨g8,g'⟩)).below f')
    have HB:=H_ (az (az Q f9) f');have m9:Hid ((hs++[(⟨hdOf p,A3,10,d3,A4,10,d4⟩:Hvf)]).map (·.hd)=(q.take (k+1)).map hdOf):=H_ (by rw[am_,HQ.out.1,i6.out.1,am_];rfl);have m':Hid (hs.flatMap Hvf.cs++Hvf.cs ⟨hdOf p,A3,10,d3,A4,10,d4⟩=(hs++[(⟨hdOf p,A3,10,d3,A4,10,d4⟩:Hvf)]).flatMap Hvf.cs):=H_ (by rw[a8_];simp);rw[<-f8];clear a0 d1 f8 d2 g8 g' f9 f' d5 j1 j2 b3 a6 f7 c9 d0 s2 z2 s3 z3 C HQ H HN i7 d' e5 HR;go_wp2_with (at_builtin;refine iy ?_);refine bz (iq rfl (.tmp 49) (.tmp 51) _ rfl w.heap.size 152 i0 _ 5 72 underlying84 l7 l8 l9 l' rfl o_ w HB.out HB.out.size _ k (hs.flatMap Hvf.cs) rfl HO.out _ _ 1 1 (Hvf.cs ⟨hdOf p,A3,10,d3,A4,10,d4⟩) rfl k9.out (fun v hv=>by simp only[Hvf.cs,f_,aL_,or_false]at hv;rcases hv with rfl|rfl|rfl|rfl|rfl<;>rfl) (k+1) _ rfl m'.out (by unfold maxLen;omega) o_ ?_);intro A5 c5 w5 z1 z2 z3 z4 z5;have HN:=H_ (c_ z1 (k'.out.grown HO.out z3));clear z1 z3 z4 z5 k9 HO HB k' e0 e1 e2 e3 e4;go_wp2;go_roundw
    case rel=>exact⟨k+1,A5,c5,_,o_,rfl,by go_num,H_ ⟨m9.out,HN.out.1,HN.out.2⟩,z2⟩
    case measure=>simp[intOf];omega
  ·obtain rfl:k=n:=o_
   have m1:((k:Int) < (k:Int))=False:=eq_false o_;have h0:q.take k=q:=g_ o_;have hq:=HQ.out;rw[h0]at hq;have a8:hs.length=k:=by
    have:=congrArg List.length hq.1;simpa [m0] using this
   have HF:Hid (lj1 wr.heap.size wr A2 k hs/\hs.map (·.hd)=q.map hdOf):=H_ ⟨⟨a8,Row.own hq.2.1,fun x hx=>⟨Row.own (hq.2.2 x hx).1,Row.own (hq.2.2 x hx).2⟩⟩,hq.1⟩;clear hq h0 HQ a8;go_wp2;go_ret;exact⟨A2,c2,hs,rfl,HF.out.1,HF.out.2,Q⟩
end Go.Proofs.YtkdbagdiplpcfaaGreatDoor
