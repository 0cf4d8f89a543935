/- Some of the texts. No conditions. -/
import Derived.Test.YtkdbagdiplpcfaaGreatDoorBunAM
import Derived.Test.YtkdbagdiplpcfaaGreatDoorBunAK
import Derived.Test.YtkdbagdiplpcfaaGreatDoorBunAN
import Derived.Test.YtkdbagdiplpcfaaGreatDoorBunAL

set_option linter.unusedSimpArgs false
set_option linter.unusedVariables false
set_option maxRecDepth 100000
set_option maxHeartbeats 16000000
namespace Go.Proofs.YtkdbagdiplpcfaaGreatDoor
open Go.Proofs.Tryz Go Go.RowKit Go.Lib Go.Shelf
namespace Fr
end Fr
theorem Vw.uv5 {v u:Vw} {e:Ed} (h:v.app e=some u):u.files.length<=40:=by
 have:=Vw.zz5 h;simp only[Vw.ok,G_,decide_eq_true_eq]at this;omega
def slLen:Value->Nat
 |.slice _ n _=>n
 |_=>0
theorem xw2 {w:World} {L:Nat} {ns:List Nd} (h:SkAt w L ns):(its ns).length+1=ns.length:=by
 obtain⟨hd,tl,C,_⟩:=h.head;rw[C];simp[its]
theorem yx3 (L:Nat) (ns:List Nd) (w:World) (hs:SkAt w L ns) (hn:ns.length<=1000000):
  Calls prog 205 #[.pointer (some ⟨L,0,none⟩),.int .i64 1] w (dw1 w (its ns)):=by
 obtain⟨i0,b9,b',c9,c'⟩:=info_parts qw;obtain⟨hd,tl,a4,h6,hL⟩:=hs.head;have l0:=hL.c0;have a5:ns[0]?=some hd:=by rw[a4];rfl
 have d5:=xw2 hs;have d6:hd.h > 0:=o_
 obtain⟨n5,⟨nl,nf⟩,nc,d7⟩:=hs.core.look a5 d6;have g1:(0:Int) < (hd.c:Int):=o_
 have g2:IntKind.i64.wrap 0=0:=by decide
 have C:=ej1 hd.tb 0 _ w nl (hs.core.ptr 0 1);rw[pz3 hs.tall]at C;obtain⟨l,hl⟩:=n_ (its ns);have J:∀k n,ns[k+1]?=some n->k < l.length/\l[k]?=some n.x:=fun k n h=>by
  have:=tk2 (ns:=ns) k;rw[h,<-hl]at this;exact⟨(J_.1 this).1,this⟩
 rw[<-hl]at d5;have d8:=H_ C;have HL:=H_ hl;have HG:=H_ J;have HS:=H_ hs;clear C hl J hs a4 h6 hL a5 nl nf nc d7;rw[<-HL.out];go_enter func205,ntmps205;go_wp2_with fail;refine d8.out.mono ?_;rintro e w1 ⟨rfl,d9⟩;subst d9;go_wp2_with fail
 go_loopw [5,6] (fun s p wr=>∃(k:Nat) (A2:Option Addr) (c2:Nat),k<=l.length/\s=.slice A2 k c2/\p=.pointer ((ns[k+1]?).map fun n=>⟨n.b,0,none⟩)/\Hid (wr.ownsRow w1.heap.size 49 5 (.slice A2 k c2) k (itc (l.take k)))/\Below w1.heap.size w1 wr) (fun s _ _=>l.length - slLen s)
 case atStart=>exact⟨0,none,0,w_ _,rfl,rfl,H_ (E_ _ _ _ _),Below.refl _ _⟩
 case round=>
  obtain⟨k,A2,c2,hk,rfl,rfl,HQ,a0⟩:=hrel
  cases E:ns[k+1]? with
  |none=>
   have O:k=l.length:=by
    have:=List.getElem?_eq_none_iff.1 E;omega
   have hq:=HQ.out;rw[O,List.take_length]at hq;obtain⟨A3,c3,hv,a6,a7,Q⟩:=gz hq;injection hv with e1 e2 e3;subst e1 e3;have U:Its w1.heap.size wr A2 l.length c2 l:=⟨Row.own hq,a6,a7,fun p hp=>(Q p hp).1⟩;have e0:=H_ U;clear U hq Q a6 a7 HQ;subst O;simp only[cx_];go_wp2;go_ret;exact⟨A2,_,c2,rfl,rfl,e0.out,a0⟩
  |some Z=>
   obtain⟨g9,a8⟩:=HG.out k Z E;have H:=HS.out.below a0;have I:=H.core.node Z (t_ E);have d0:=I.cell 0;have d1:=I.cell 1;have d2:=I.cell 2;have d3:=I.cell 3;have d4:=I.cell 4;simp only[It.cells,T_,C_,gE0,gE1]at d0 d1 d2 d3 d4;have a9:itc (l.take k)++Z.x.cells=itc (l.take (k+1)):=by
    rw[List.take_add_one,a8,lq];simp[itc]
   have a':0 < Z.h:=HS.out.tall Z (t_ E);generalize e4:Z.x=x at *;have b0:BoxO (wr.alloc (.cells #[.int .i64 x.s,.int .i64 x.k,.int .u64 (x.t:Int),.int .u64 (x.v:Int),.int .i64 x.x] 49)) 49 wr.heap.size x.cells:=BoxO.new wr #[.int .i64 x.s,.int .i64 x.k,.int .u64 (x.t:Int),.int .u64 (x.v:Int),.int .i64 x.x] 49;have a1:=b_ wr (.cells #[.int .i64 x.s,.int .i64 x.k,.int .u64 (x.t:Int),.int .u64 (x.v:Int),.int .i64 x.x] 49);have b1:=own_below HQ.out a1;have b2:=az a0 a1;have HR:=H_ (az1 b0);have HO:=H_ b1;have HB:=H_ b2;have HX:=H_ a9;have HN:=H_ (c_ E a');clear b0 a1 b1 b2 HQ a9 H I a8 E a' e4;simp only[a3_];go_wp2_with (at_builtin;refine iy ?_);refine bz (iq rfl (.tmp 34) (.tmp 39) _ rfl w1.heap.size 49 i0 _ 5 40 underlying26 b9 b' c9 c' rfl o_ w1 HB.out HB.out.size _ k (itc (l.take k)) rfl HO.out (wr.alloc (.cells #[.int .i64 x.s,.int .i64 x.k,.int .u64 (x.t:Int),.int .u64 (x.v:Int),.int .i64 x.x] 49)).heap.size _ 1 1 x.cells rfl HR.out (fun v hv=>uj [x] v (by simpa [itc] using hv)) (k+1) _ rfl HX.out (by unfold maxLen;omega) o_ ?_);intro A3 c3 w5 h1 h2 h3 h4 h5;have H:=HS.out.below h2;obtain⟨m5,⟨ml,mf⟩,mc,h7⟩:=H.core.look HN.out.1 HN.out.2;have h8:(0:Int) < (Z.c:Int):=o_
   have C:=ej1 Z.tb 0 _ w5 ml (H.core.ptr 0 _);rw[pz3 HS.out.tall,Option.map_map]at C;have b3:=H_ C;have H5:=H_ h1;clear h1 h3 HX HR HO HB C ml mf H d0 d1 d2 d3 d4;go_wp2_with fail;refine b3.out.mono ?_;rintro e w7 ⟨rfl,e6⟩;subst e6;go_wp2;go_roundw
   case rel=>exact⟨k+1,A3,c3,o_,rfl,rfl,H5,h2⟩
   case measure=>simp[slLen];omega
theorem lx5 (L:Nat) (ns:List Nd) (w:World) (hs:SkAt w L ns) (C:ns.length<=1000000):
  Calls prog 138 #[.pointer (some ⟨L,0,none⟩)] w (dw1 w (its ns)):=by
 have E:=H_ (yx3 L ns w hs C);go_enter func138,ntmps138;go_wp2_with fail;refine E.out.mono ?_;rintro e I ⟨A',k,H,rfl,h1,h2,h3⟩;subst h1;go_wp2;go_ret;exact⟨A',_,H,rfl,rfl,h2,h3⟩
theorem wj3 (L:Nat) (ns:List Nd) (w:World) (hs:SkAt w L ns):
  Calls prog 105 #[.pointer (some ⟨L,0,none⟩)] w fun e w'=>e=.returned (.int .i64 ((its ns).length:Int))/\w'=w:=by
 obtain⟨hd,tl,C,J,H⟩:=hs.head;have E:=xw2 hs;have I:=H.c1;have e:tl.length=(its ns).length:=by rw[C]at E ⊢;simp at E;omega
 rw[e]at I;clear E e C;go_enter func105,ntmps105;go_wp2;go_ret;exact⟨rfl,rfl⟩
structure MmAt (w:World) (m L:Nat) (ns:List Nd):Prop where
 box:∃sz:Int,BoxO w 171 m [.pointer (some ⟨L,0,none⟩),.int .u32 0,.int .i32 0,.int .u32 0,.bool false,.int .i64 sz]
 sk:SkAt w L ns
 out:m∉skF L ns
variable {w w':World} {m L:Nat} {ns:List Nd}
theorem MmAt.chg {F:List Nat} (h:MmAt w m L ns) (c:Chg F w w') (hF:∀g∈m::skF L ns,g∉F):MmAt w' m L ns:=
 ⟨let ⟨sz,a⟩:=h.box;⟨sz,a.chg c (hF m i_)⟩,h.sk.chg c (fun g C=>hF g (e_ _ C)),h.out⟩
theorem MmAt.below (h:MmAt w m L ns) (c:Below w.heap.size w w'):MmAt w' m L ns:=h.chg (Chg.of_below c []) (fun _ _=>by simp)
theorem zx2 (w:World):Calls prog 48 #[] w fun e w'=>∃m L ns,e=.returned (.pointer (some ⟨m,0,none⟩))/\MmAt w' m L ns/\its ns=[]/\Below w.heap.size w w'/\∀g∈m::skF L ns,w.heap.size<=g:=by
 have E:=H_ (ez5 w);go_enter func48,ntmps48;go_wp2_with fail;refine E.out.mono ?_;rintro e H ⟨L,ns,rfl,h1,h2,h3,h4⟩;have I:=H_ (c_ h1 (c_ h2 (c_ h3 h4)));clear h1 h2 h3 h4 E;go_wp2;go_ret;obtain⟨h1,h2,h3,h4⟩:=I.out;have hs:=h3.size;refine⟨H.heap.size,L,ns,rfl,⟨⟨0,BoxO.new _ _ _⟩,h1.below (b_ _ _),fun J=>?_⟩,h2,h3.alloc hs _,fun g C=>?_⟩
 ·have:=h1.lt _ J
  omega
 ·rcases f_.1 C with rfl|C
  ·exact hs
  ·exact h4 g C
theorem kj3 (h:MmAt w m L ns) (E:ns.length<=1000000):Calls prog 61 #[.pointer (some ⟨m,0,none⟩)] w (dw1 w (its ns)):=by
 obtain⟨sz,C⟩:=h.box;have c0:=C.c0;have H:=H_ (lx5 L ns w h.sk E);clear C h;go_enter func61,ntmps61;go_wp2_with fail;refine H.out.mono ?_;rintro e J ⟨A',k,I,rfl,h1,h2,h3⟩;subst h1;go_wp2;go_ret;exact⟨A',_,I,rfl,rfl,h2,h3⟩
theorem sj4 (h:MmAt w m L ns):Calls prog 42 #[.pointer (some ⟨m,0,none⟩)] w fun e w'=>e=.returned (.int .i64 ((its ns).length:Int))/\w'=w:=by
 obtain⟨sz,C⟩:=h.box;have c0:=C.c0;have E:=H_ (wj3 L ns w h.sk);clear C h;go_enter func42,ntmps42;go_wp2_with fail;refine E.out.mono ?_;rintro e H ⟨rfl,rfl⟩;go_wp2;go_ret;exact⟨rfl,rfl⟩
theorem height_any (x:It) (hk:x.ok=true) (w:World):Calls prog 126 #[x.val] w fun e w'=>∃k:Nat,1<=k/\k<=6/\e=.returned (.int .i64 (k:Int))/\Below w.heap.size w w':=by
 have E:=fun W=>ix4 x hk W;have Q:=b_ w (.cells #[.int .i64 x.s,.int .i64 x.k,.int .u64 (x.t:Int),.int .u64 (x.v:Int),.int .i64 x.x] 49);unfold It.val at *;have H:=H_ E;have U:=H_ Q;clear E Q;go_enter func126,ntmps126;go_wp2_with fail;refine(H.out _).mono ?_;rintro e Z ⟨A',c',rfl,hr,h1,h2,h3⟩;have hb:=az U.out h3;have HH:=H_ (qx3 A' 10 c' x.key Z o_ hr);clear hr h3 U H;go_wp2_with fail;refine HH.out.mono ?_;rintro e w2 ⟨rfl,rfl⟩;generalize (Fnv.hash x.key).toNat=C;clear HH;go_wp2_with fail
 go_loopw [3,4] (fun n h wr=>∃k C:Nat,1<=k/\k<=6/\n=.int .i64 (k:Int)/\h=.int .u64 (C:Int)/\wr=Z) (fun n _ _=>6 - (intOf n).toNat)
 case atStart=>exact⟨1,C,o_,o_,rfl,rfl,rfl⟩
 case round=>
  obtain⟨k,C,I,J,rfl,rfl,rfl⟩:=hrel;have a6:IntKind.i64.wrap ((k:Int)+1)=((k+1:Nat):Int):=by rw[D_ _ o_];omega
  obtain⟨b,a7⟩:∃b:Bool,(bits .and .u64 (C:Int) 3==0)=b:=⟨_,rfl⟩
  cases b with
  |false=>
   go_wp2;go_ret;exact⟨k,I,J,rfl,hb⟩
  |true=>
   by_cases h6:k < 6
   ·have O:(k:Int) < 6:=o_
    go_wp2;go_roundw
    case rel=>exact⟨k+1,C / 4,o_,o_,rfl,by go_num,trivial⟩
    case measure=>simp[intOf];omega
   ·have O:((k:Int) < 6)=False:=eq_false o_
    go_wp2;go_ret;exact⟨k,I,J,rfl,hb⟩
def pk5 (w:World) (m L:Nat) (ns:List Nd) (l:List It) (e:Ending) (w':World):Prop:=∃ns',e=.returned (.int .i64 0)/\MmAt w' m L ns'/\its ns'=l.foldl wput (its ns)/\Chg (m::skF L ns) w w'/\∀g∈skF L ns',g∈skF L ns\/w.heap.size<=g
theorem my4 (l:List It) (x:It):(wput l x).length<=l.length+1:=by
 unfold wput;split
 ·omega
 ·unfold put
  have h1:=L_ (fun y=>It.less y x) l;rw[d_,q_];have:∀l:List It,(l.filter fun y=>It.less y x).length+(l.filter fun y=>It.less x y).length<=l.length:=by
   intro l
   induction l with
   |nil=>simp
   |cons a r C=>
    simp only[ar_]
    cases h2:It.less a x<;>cases h3:It.less x a
    ·simp;omega
    ·simp;omega
    ·simp;omega
    ·rw[It.uz]at h2 h3;omega
  have:=this l;omega
theorem lv2:∀(b a:List It),(b.foldl wput a).length<=a.length+b.length
 |[],a=>by simp
 |x::b,a=>by
  have h1:=lv2 b (wput a x);have h2:=my4 a x;simp only[aT_,q_];omega
theorem xz5 {I wr Q J:World} {C E:List Nd} {R:List It} {x:It} (K:MmAt wr m L C/\its C=R/\Chg (m::skF L ns) I wr/\∀g∈skF L C,g∈skF L ns\/I.heap.size<=g)
  (U:Below wr.heap.size wr Q) (q1:SkAt J L E) (q2:its E=wput (its C) x) (q3:Chg (skF L C) Q J) (q4:∀g∈skF L E,g∈skF L C\/Q.heap.size<=g):
  MmAt J m L E/\its E=wput R x/\Chg (m::skF L ns) I J/\∀g∈skF L E,g∈skF L ns\/I.heap.size<=g:=by
 obtain⟨O,k2,k3,k4⟩:=K;obtain⟨sz,Z⟩:=(O.below U).box;have a7:=k3.size;have a8:=U.size;have a9:m < wr.heap.size:=by
  obtain⟨sz,Z⟩:=O.box;exact Z.lt
 refine⟨⟨⟨sz,Z.chg q3 O.out⟩,q1,fun hm=>?_⟩,by rw[q2,k2],(k3.trans (Chg.of_below U (m::skF L ns)) (fun g H=>.inl H)).trans q3 (fun g H=>?_),fun g H=>?_⟩
 ·rcases q4 m hm with h|h
  ·exact O.out h
  ·omega
 ·rcases k4 g H with h|h
  ·exact .inl (e_ _ h)
  ·exact .inr h
 ·rcases q4 g H with h|h
  ·exact k4 g h
  ·exact .inr o_
theorem lv3 (h:MmAt w m L ns) (A:Option Addr) (n c:Nat) (l:List It) (hn:n<=400000) (j0:(its ns).length<=400000) (hr:Row w.heap.size w A n 5 (itc l)) (hA:∀a,A=some a->a.block≠m/\a.block∉skF L ns) (hk:l.all It.ok=true):
  Calls prog 53 #[.pointer (some ⟨m,0,none⟩),.slice A n c] w (pk5 w m L ns l):=by
 have j1:=hr.qj;obtain⟨sz,hb⟩:=h.box;have c4:=hb.c4;have a5:=cx2 123 (fun _ _=>rfl) #[] (fun x=>!x.ok) A n c l w o_ hr (fun x w1 _=>gj5 x w1);rw[wx2,hk]at a5;have c9:=H_ a5;have e':=H_ hk;have H:=H_ h;clear a5 hk hb h;go_enter func53,ntmps53;go_wp2_with fail;refine c9.out.mono ?_;rintro e w1 ⟨rfl,O⟩;have h1:=H.out.below O;have f6:=(hr.below O).up O.size;have c':=H_ O;have H1:=H_ h1;clear h1 O hr c9;go_wp2_with fail
 go_loopw [17] (fun s wr=>∃(k:Nat) (C:List Nd),k<=n/\s=.int .i64 (k:Int)/\Hid (MmAt wr m L C/\its C=(l.take k).foldl wput (its ns)/\Chg (m::skF L ns) w1 wr/\∀g∈skF L C,g∈skF L ns\/w1.heap.size<=g)) (fun s _=>n - (intOf s).toNat)
 case atStart=>exact⟨0,ns,w_ _,rfl,H_ ⟨H1.out,rfl,Chg.refl _ _,fun g Q=>.inl Q⟩⟩
 case round=>
  obtain⟨k,C,j3,rfl,Z⟩:=hrel
  by_cases f7:k < n
  ·have f8:(k:Int) < (n:Int):=o_
   have j4:IntKind.i64.wrap (k:Int)=(k:Int):=D_ _ o_;have d5:Row w1.heap.size wr A n 5 (itc l):=Z.out.2.2.1.row f6 l_ (fun a ha hm=>by
    rcases f_.1 hm with h2|h2
    ·exact(hA a ha).1 h2
    ·exact(hA a ha).2 h2)
   obtain⟨p,hl,rfl,j6,c0,c1,f9,c3,c4⟩:=d5.it f7;have d6:l[k].ok=true:=by have:=e'.out;rw[ab_]at this;exact this _ (u_ hl)
   have d7:(l.take (k+1)).foldl wput (its ns)=wput ((l.take k).foldl wput (its ns)) l[k]:=by
    rw[r_ hl,a6_];rfl
   generalize l[k]=x at *;have f':C.length<=1000000:=by
    have h2:=xw2 Z.out.1.sk;have h3:=lv2 (l.take k) (its ns);rw[<-Z.out.2.1,v_]at h3;omega
   have a6:=b_ wr (.cells #[.int .i64 x.s,.int .i64 x.k,.int .u64 (x.t:Int),.int .u64 (x.v:Int),.int .i64 x.x] 49);have E:BoxO (wr.alloc (.cells #[.int .i64 x.s,.int .i64 x.k,.int .u64 (x.t:Int),.int .u64 (x.v:Int),.int .i64 x.x] 49)) 49 wr.heap.size x.cells:=BoxO.new wr #[.int .i64 x.s,.int .i64 x.k,.int .u64 (x.t:Int),.int .u64 (x.v:Int),.int .i64 x.x] 49;have d8:=Z.out.1.below a6;have a7:=fun W=>height_any x d6 W;have a8:=fun W (hW:Below wr.heap.size wr W) (h:Nat) h1 h6=>vx4 L h C x W (Z.out.1.sk.below hW) d6 h1 h6 f';obtain⟨d9,I⟩:=d8.box;have d':∀w',Below wr.heap.size wr w'->w'.cell? ⟨m,0,none⟩=some (.pointer (some ⟨L,0,none⟩)):=fun w' hw=>by
    obtain⟨j9,e0⟩:=(Z.out.1.below hw).box;exact e0.cell 0
   have g0:∀w',Below (wr.heap.size+1) (wr.alloc (.cells #[.int .i64 x.s,.int .i64 x.k,.int .u64 (x.t:Int),.int .u64 (x.v:Int),.int .i64 x.x] 49)) w'->w'.cell? ⟨wr.heap.size,0,none⟩=some (.int .i64 x.s)/\w'.cell? ⟨wr.heap.size,1,none⟩=some (.int .i64 x.k)/\w'.cell? ⟨wr.heap.size,2,none⟩=some (.int .u64 (x.t:Int))/\w'.cell? ⟨wr.heap.size,3,none⟩=some (.int .u64 (x.v:Int))/\w'.cell? ⟨wr.heap.size,4,none⟩=some (.int .i64 x.x):=fun w' hw=>by
    have e:=E.below (w':=w') (by simpa using hw);exact⟨e.cell 0,e.cell 1,e.cell 2,e.cell 3,e.cell 4⟩
   unfold It.val at a7 a8;have g5:=H_ a7;have g6:=H_ a8;have a':=H_ a6;have e1:=H_ E;have g7:=H_ d7;have KC:=H_ d';have m0:=I.cell 0;have b0:=E.cell 0;have b1:=E.cell 1;have b2:=E.cell 2;have b3:=E.cell 3;have b4:=E.cell 4;simp only[It.cells,gE0,gE1]at b0 b1 b2 b3 b4 m0;obtain⟨U,hU⟩:=n_ (wr.alloc (.cells #[.int .i64 x.s,.int .i64 x.k,.int .u64 (x.t:Int),.int .u64 (x.v:Int),.int .i64 x.x] 49));have e3:∀w',Below U.heap.size U w'->w'.cell? ⟨m,0,none⟩=some (.pointer (some ⟨L,0,none⟩))/\(w'.cell? ⟨wr.heap.size,0,none⟩=some (.int .i64 x.s)/\w'.cell? ⟨wr.heap.size,1,none⟩=some (.int .i64 x.k)/\w'.cell? ⟨wr.heap.size,2,none⟩=some (.int .u64 (x.t:Int))/\w'.cell? ⟨wr.heap.size,3,none⟩=some (.int .u64 (x.v:Int))/\w'.cell? ⟨wr.heap.size,4,none⟩=some (.int .i64 x.x)):=fun w' hw=>by
    rw[hU]at hw;have e:=E.below hw;have e2:=(I.below hw).cell 0;exact⟨e2,e.cell 0,e.cell 1,e.cell 2,e.cell 3,e.cell 4⟩
   rw[<-hU]at m0 b0 b1 b2 b3 b4 e1 a';have KZ:=H_ e3;have HU:=hU.symm;clear a7 a8 a6 E d7 d' g0 I d8 d5 hU e3 e1 KC;go_wp2_with fail;clear HU c0 c1 f9 c3 c4
   go_region_with (first
    |(go_at_call 126;refine(g5.out _).mono ?_;rintro e w7 ⟨hh,g9,g',rfl,a1⟩;have a0:=(ak (Below.refl U.heap.size U)).trans a1;obtain⟨m1,d0,d1,d2,d3,d4⟩:=KZ.out w7 a0)
    |(go_at_call 125;refine(g6.out _ (az a'.out a0) hh g9 g').mono ?_;rintro e w8 ⟨bb,h0,rfl,q1,q2,q3,q4⟩))
   all_goals
    have J:=xz5 Z.out (az a'.out a0) q1 q2 q3 q4;rw[<-g7.out]at J;have b5:=H_ J;clear J q1 q2 q3 q4 a0 a1 m1 d0 d1 d2 d3 d4;go_wp2;go_roundw
    case rel=>exact⟨k+1,h0,o_,by go_num,b5⟩
    case measure=>simp[intOf];omega
  ·have f8:((k:Int) < (n:Int))=False:=eq_false o_
   have a2:l.take k=l:=g_ o_;have e4:=Z.out;rw[a2]at e4;obtain⟨g1,g2,g3,g4⟩:=e4;obtain⟨d9,I⟩:=g1.box;have m0:=I.c0;have m5:=I.c5;have f5:=I.free 5;obtain⟨N,hN⟩:=n_ ((its C).length);have k7:N<=800000:=by
    have h3:=lv2 l (its ns);rw[<-g2]at h3;omega
   have i':IntKind.i64.wrap ((N:Int)*28)=(N:Int)*28:=D_ _ o_;have b6:=wj3 L C wr.drew (g1.sk.chg (F:=[]) (Chg.refl _ wr).drew (fun _ _=>by simp));rw[<-hN]at b6;have J:=fq2 m 5 d9 ((N:Int)*28) wr.drew m5 f5;have b7:=xw wr.drew ⟨m,5,none⟩ (.int .i64 ((N:Int)*28));have b8:=I.drew.store 5 (.int .i64 ((N:Int)*28));simp only[aJ_,aD_]at b8;have a4:pk5 w m L ns l (.returned (.int .i64 0)) (wr.drew.setCell ⟨m,5,none⟩ (.int .i64 ((N:Int)*28))):=by
    refine⟨C,rfl,⟨⟨_,b8⟩,(g1.sk.chg (F:=[]) (Chg.refl _ wr).drew (fun _ _=>by simp)).chg b7 (fun g Q e=>g1.out ((a_.1 e:g=m)▸Q)),g1.out⟩,g2,?_,fun g Q=>?_⟩
    ·exact((Chg.of_below c'.out (m::skF L ns)).trans (g3.drew) (fun g Q=>.inl Q)).trans b7 (fun g Q=>.inl (by rw[(a_.1 Q:g=m)];exact i_))
    ·rcases g4 g Q with h2|h2
     ·exact .inl h2
     ·exact .inr (j_ c'.out.size h2)
   have h8:=H_ b6;have b5:=H_ J;have e5:=H_ a4;clear b6 J b7 b8 a4 g1 g2 g3 g4 I Z hN a2;go_wp2_with fail
   go_region_with (first
    |(go_at_call 105;refine h8.out.mono ?_;rintro e w7 ⟨rfl,rfl⟩)
    |(go_at_call 119;refine b5.out.mono ?_;rintro e w8 ⟨rfl,rfl⟩))
   all_goals
    go_wp2;go_ret;exact e5.out
structure RSt (base:Nat) (w:World) (l:List It) (x:It) (k:Nat) (A:Option Addr) (q c:Nat) (pt:Bool):Prop where
 own:w.ownsRow base 49 5 (.slice A q c) q (itc ((l.take k).foldl (zq x) ([],false)).1)
 len:q=((l.take k).foldl (zq x) ([],false)).1.length
 put:pt=((l.take k).foldl (zq x) ([],false)).2
 free:hidden (l.take k) x=false
 best:yz (l.take k) x=false
theorem ex2 (x:It):∀(l:List It) (r:List It×Bool),(l.foldl (zq x) r).1.length<=r.1.length+2 *l.length
 |[],r=>by simp
 |y::l,r=>by
  have h1:=ex2 x l (zq x r y);have h2:(zq x r y).1.length<=r.1.length+2:=by
   unfold zq;split
   ·omega
   ·simp only
    split<;>split<;>simp
  simp only[aT_,q_];omega
theorem xk4 {x:It} {l:List It} {k:Nat} (h:k < l.length):(l.take (k+1)).foldl (zq x) ([],false)=zq x ((l.take k).foldl (zq x) ([],false)) l[k]:=by
 rw[r_ h,a6_];rfl
theorem iq5 {x:It} {l:List It} {k:Nat} (h:k < l.length):hidden (l.take (k+1)) x=(hidden (l.take k) x||It.hides l[k] x)/\yz (l.take (k+1)) x=(yz (l.take k) x||(It.same l[k] x&&!x.wins l[k])):=by
 unfold hidden yz;rw[r_ h,bT_,bT_];simp
theorem rx5 {x:It} {l:List It} {k:Nat} (h:hidden (l.take k) x=true\/yz (l.take k) x=true):add l x=l:=by
 have:hidden l x=true\/yz l x=true:=by
  rcases h with h|h
  ·left
   unfold hidden at *;obtain⟨t,C,h2⟩:=ay_.1 h;exact ay_.2 ⟨t,aP_ C,h2⟩
  ·right
   unfold yz at *;obtain⟨t,C,h2⟩:=ay_.1 h;exact ay_.2 ⟨t,aP_ C,h2⟩
 unfold add;rw[if_pos]
 rcases this with h|h<;>simp[h]
def tw3 (w:World) (A:Option Addr) (R:List It) (e:Ending) (w':World):Prop:=∃A' k c',e=.returned (.slice A' k c')/\k=R.length/\Row w'.heap.size w' A' k 5 (itc R)/\(A'=A\/∀a,A'=some a->w.heap.size<=a.block/\a.block < w'.heap.size)/\Below w.heap.size w w'
def sj1 (w:World) (A:Option Addr) (l R:List It) (e:Ending) (w':World):Prop:=∃A' k c',e=.returned (.slice A' k c')/\k=R.length/\Row w'.heap.size w' A' k 5 (itc R)/\(A'=A/\R=l\/∀a,A'=some a->w.heap.size<=a.block/\a.block < w'.heap.size)/\Below w.heap.size w w'
theorem sj1.up {w w':World} {A:Option Addr} {l R:List It} {e:Ending} (h:sj1 w A l R e w'):tw3 w A R e w':=let ⟨A',k,C,q1,E,H,I,J⟩:=h;⟨A',k,C,q1,E,H,I.imp (fun z=>z.1) (fun z=>z),J⟩
theorem sj1.same {w w':World} {A:Option Addr} {n c:Nat} {l R:List It} (E:Row w.heap.size w A n 5 (itc l)) (C:Below w.heap.size w w') (e:R=l):sj1 w A l R (.returned (.slice A n c)) w':=⟨A,n,c,rfl,by rw[e];exact E.qj.symm,by rw[e];exact(E.below C).up C.size,.inl ⟨rfl,e⟩,C⟩
theorem sj1.own {w w':World} {B:Nat} {A A':Option Addr} {q c:Nat} {l R L:List It} (h:w'.ownsRow B 49 5 (.slice A' q c) q (itc L)) (H:w.heap.size<=B) (I:Below w.heap.size w w') (e:R=L):sj1 w A l R (.returned (.slice A' q c)) w':=by
 subst e;obtain⟨A3,c3,J,O,Q,C⟩:=gz h;injection J with U e2 Z;subst U Z;exact⟨_,_,_,rfl,(Row.own h).qj.symm,Row.own h,.inr fun a E=>⟨j_ H (C a E).1,(C a E).2.1⟩,I⟩
theorem kj2 {w:World} {g:Nat} {x:It} (h:BoxO w 49 g x.cells):w.cell? ⟨g,0,none⟩=some (.int .i64 x.s)/\w.cell? ⟨g,1,none⟩=some (.int .i64 x.k)/\w.cell? ⟨g,2,none⟩=some (.int .u64 (x.t:Int))/\w.cell? ⟨g,3,none⟩=some (.int .u64 (x.v:Int))/\w.cell? ⟨g,4,none⟩=some (.int .i64 x.x):=by
 have C:=h.cell 0;have b1:=h.cell 1;have b2:=h.cell 2;have E:=h.cell 3;have b4:=h.cell 4;simp only[It.cells,gE0,gE1]at C b1 b2 E b4;exact⟨C,b1,b2,E,b4⟩
theorem kv5 (x y:It) (r:List It×Bool) (h:x.same y=false):zq x r y=((if (!r.2&&x.less y)=true then r.1++[x] else r.1)++(if x.hides y=true then [] else [y]),r.2||(!r.2&&x.less y)):=by
 unfold zq;rw[if_neg (by simp[h])]
 cases h1:r.2<;>cases h2:x.less y<;>cases h3:x.hides y<;>simp[h1]
theorem uw5 {W:World} {base:Nat} {e:TypeId} {size n:Nat} {v:Value} {xs:List Value} (h:W.ownsRow base e size v n xs) {g:Nat} (H:W.heap.size<=g):some g≠v.ownBlock:=by
 rcases h.2 with ⟨rfl,_⟩|⟨I,cap,cur,rfl,J,C,_⟩
 ·simp[Value.ownBlock]
 ·intro E
  have h1:=(A_.1 C).1;simp only[Value.ownBlock,aC_]at E;omega
theorem nv4 (A:Option Addr) (n c:Nat) (l:List It) (x:It) (w:World) (hn:n<=100000) (hS:Stt l) (hx:x.ok=true) (hr:Row w.heap.size w A n 5 (itc l)):
  Calls prog 71 #[.slice A n c,x.val] w (sj1 w A l (add l x)):=by
 have l':=hr.qj;obtain⟨i0,f9,f',g0,g1⟩:=info_parts qw;have b3:=b_ w (.cells #[.int .i64 x.s,.int .i64 x.k,.int .u64 (x.t:Int),.int .u64 (x.v:Int),.int .i64 x.x] 49);have d':BoxO (w.alloc (.cells #[.int .i64 x.s,.int .i64 x.k,.int .u64 (x.t:Int),.int .u64 (x.v:Int),.int .i64 x.x] 49)) 49 w.heap.size x.cells:=BoxO.new w #[.int .i64 x.s,.int .i64 x.k,.int .u64 (x.t:Int),.int .u64 (x.v:Int),.int .i64 x.x] 49;have e7:Hid (∀L b,(l.foldl (zq x) ([],false))=(L,b)->hidden l x=false->yz l x=false->add l x=if b=true then L else L++[x]):=H_ fun L b h h1 h2=>by
  have:=zv4 hS hx h1 h2;rw[h]at this;exact this.symm
 have b5:=fun(w':World) (hb:Below w.heap.size w w') (k:Nat) (hh:hidden (l.take k) x=true\/yz (l.take k) x=true)=>sj1.same (c:=c) hr hb (rx5 hh);obtain⟨R,hR⟩:=n_ (add l x);have b6:Hid (∀w',Below w.heap.size w w'->∀k,hidden (l.take k) x=true\/yz (l.take k) x=true->sj1 w A l R (.returned (.slice A n c)) w'):=H_ (by rw[hR];exact b5);rw[<-hR]at e7 ⊢;have g2:=fun(y:It) W=>yy1 y x W;have g4:=fun(y:It) W=>kw4 x y W;have g5:=fun(y:It) W=>iw4 x y W;have g6:=fun(y:It) W=>ty1 x y W;have g7:=fun(y:It) W=>yy1 x y W;unfold It.val at g2 g4 g5 g6 g7 ⊢;have HC:=H_ (c_ g2 (c_ g4 (c_ g5 (c_ g6 g7))));have g8:=(hr.below b3).up b3.size;obtain⟨g,hg⟩:=n_ w.heap.size;obtain⟨W,hW⟩:=n_ (w.alloc (.cells #[.int .i64 x.s,.int .i64 x.k,.int .u64 (x.t:Int),.int .u64 (x.v:Int),.int .i64 x.x] 49));rw[<-hW]at b3 d' g8;rw[<-hg]at d';have k3:Hid (w.heap.size+1=W.heap.size):=H_ (by rw[hW];simp);have k4:=H_ g8;have a2:=H_ b3;have g9:=H_ d';clear hR b5 g2 g4 g5 g6 g7 hr b3 d' g8 hS;go_enter func71,ntmps71;go_wp2_with fail;rw[<-hW,<-hg];have k5:=H_ (c_ hW hg);clear hW hg;go_wp2_with fail
 go_loopw [5,6,7] (fun s p i wr=>∃(k q:Nat) (A2:Option Addr) (c2:Nat) (pt:Bool),k<=n/\s=.slice A2 q c2/\p=.bool pt/\i=.int .i64 (k:Int)/\Hid (RSt W.heap.size wr l x k A2 q c2 pt)/\Below W.heap.size W wr) (fun _ _ i _=>n - (intOf i).toNat)
 case atStart=>exact⟨0,0,none,0,false,w_ _,rfl,rfl,rfl,H_ ⟨E_ _ _ _ _,rfl,rfl,rfl,rfl⟩,Below.refl _ _⟩
 case round=>
  obtain⟨k,q,A2,c2,pt,hk,rfl,rfl,rfl,HQ,a6⟩:=hrel
  by_cases k6:k < n
  ·obtain⟨p,hl,rfl,m0,c0,c1,k7,c3,c4⟩:=(k4.out.below a6).it k6
   have g':=xk4 (x:=x) hl;have h0:=iq5 (x:=x) hl;have k8:q<=200000:=by
    have h1:=ex2 x (l.take k) ([],false);rw[<-HQ.out.len,v_]at h1;simp only[V_]at h1;omega
   generalize l[k]=y at *;obtain⟨r,hr⟩:=n_ ((l.take k).foldl (zq x) ([],false));obtain⟨C,I,J,E,H⟩:=HQ.out;rw[<-hr]at g' C I J;rw[E,H,Bool.false_or,Bool.false_or]at h0;have HT:=H_ (c_ g' h0);have l5:=H_ C;have b7:=H_ I;have b8:=H_ J;have m1:IntKind.i64.wrap (k:Int)=(k:Int):=D_ _ o_;have b9:BoxO (wr.alloc (.cells #[.int .i64 y.s,.int .i64 y.k,.int .u64 (y.t:Int),.int .u64 (y.v:Int),.int .i64 y.x] 49)) 49 wr.heap.size y.cells:=BoxO.new wr #[.int .i64 y.s,.int .i64 y.k,.int .u64 (y.t:Int),.int .u64 (y.v:Int),.int .i64 y.x] 49;have e0:=(g9.out.below a6).alloc (.cells #[.int .i64 y.s,.int .i64 y.k,.int .u64 (y.t:Int),.int .u64 (y.v:Int),.int .i64 y.x] 49);have a1:=b_ wr (.cells #[.int .i64 y.s,.int .i64 y.k,.int .u64 (y.t:Int),.int .u64 (y.v:Int),.int .i64 y.x] 49);obtain⟨V,hV⟩:=n_ (wr.alloc (.cells #[.int .i64 y.s,.int .i64 y.k,.int .u64 (y.t:Int),.int .u64 (y.v:Int),.int .i64 y.x] 49));have h6:=az a6 a1;have a4:=own_below C a1;have b':=uw5 C l_;rw[<-hV]at b9 e0 h6 a4;obtain⟨gy,e2⟩:=n_ wr.heap.size;rw[<-e2]at b9 b';have h7:=H_ (fun w' (hb:Below V.heap.size V w')=>c_ (kj2 (e0.below hb)) (kj2 (b9.below hb)));have i8:=H_ b9;have i9:=H_ b';have h8:=H_ a4;have c9:=H_ h6;obtain⟨x0,x1,x2,x3,x4⟩:=kj2 e0;rw[hV]at x0 x1 x2 x3 x4;clear hr g' h0 C I J E H b9 e0 a1 h6 a4 b' HQ;go_wp2_with fail;rw[<-hV,<-e2];have m3:=H_ (c_ hV e2);clear hV e2 x0 x1 x2 x3 x4 c0 c1 k7 c3 c4;refine(HC.out.1 y V).mono ?_;rintro e w1 ⟨rfl,a1⟩;obtain⟨⟨x0,x1,x2,x3,x4⟩,y0,y1,y2,y3,y4⟩:=h7.out w1 a1
   cases e3:y.hides x with
   |true=>
    have HZ:=H_ (b6.out w1 (a2.out.trans ((az c9.out a1).mono a2.out.size)) (k+1) (.inl (by rw[HT.out.2.1];exact e3)));clear e3 a1;go_wp2;go_ret;exact HZ.out
   |false=>
   have h':Hid (hidden (l.take (k+1)) x=false):=H_ (by rw[HT.out.2.1];exact e3);clear e3;go_wp2_with fail;refine(HC.out.2.1 y w1).mono ?_;rintro e w2 ⟨rfl,Z⟩;have Z:=az a1 Z;clear x0 x1 x2 x3 x4 y0 y1 y2 y3 y4 a1;obtain⟨⟨x0,x1,x2,x3,x4⟩,y0,y1,y2,y3,y4⟩:=h7.out w2 Z
   cases hs:x.same y with
   |true=>
    have HS:=H_ hs;clear hs;go_wp2_with fail;refine(HC.out.2.2.1 y w2).mono ?_;rintro e w3 ⟨rfl,O⟩;have O:=az Z O
    cases e4:x.wins y with
    |false=>
     have HZ:=H_ (b6.out w3 (a2.out.trans ((az c9.out O).mono a2.out.size)) (k+1) (.inr (by rw[HT.out.2.2,e4,b5_,Bool.and_true];exact(show y.same x=true by rw[It.same_iff];have:=It.same_iff.1 HS.out;omega))));clear e4 O Z;go_wp2;go_ret;exact HZ.out
    |true=>
     have c':Hid (RSt W.heap.size w3 l x (k+1) A2 q c2 pt):=H_ (by
      have e1:zq x r y=r:=by unfold zq;rw[if_pos HS.out]
      refine⟨?_,?_,?_,h'.out,?_⟩
      ·rw[HT.out.1,e1];exact own_below h8.out O
      ·rw[HT.out.1,e1];exact b7.out
      ·rw[HT.out.1,e1];exact b8.out
      ·rw[HT.out.2.2,e4];simp)
     have d1:=az c9.out O;clear e4 O Z;go_wp2;go_roundw
     case rel=>exact⟨k+1,q,A2,c2,pt,o_,rfl,rfl,by go_num,c',d1⟩
     case measure=>simp[intOf];omega
   |false=>
   have HS:=H_ hs;have i':Hid (yz (l.take (k+1)) x=false):=H_ (by rw[HT.out.2.2];rw[show y.same x=false by cases h:y.same x with
    |false=>rfl
    |true=>rw[It.same_iff]at h;have:x.same y=true:=by { rw[It.same_iff];omega };rw[hs]at this;cases this];rfl)
   clear hs;go_upto_region 12 with (fail)
   go_cut [37] (fun v wx=>∃b:Bool,v=.bool b/\Hid (b=(!pt&&x.less y))/\Below V.heap.size V wx)
   case first=>
    cases pt with
    |true=>
     go_wp2_with fail
     go_meet
     exact⟨false,rfl,H_ rfl,Z⟩
    |false=>
     go_wp2_with fail;refine(HC.out.2.2.2.1 y w2).mono ?_;rintro e w3 ⟨rfl,O⟩;have O:=az Z O;clear x0 x1 x2 x3 x4 y0 y1 y2 y3 y4 Z;go_wp2_with fail
     go_meet
     exact⟨_,rfl,H_ rfl,O⟩
   case rest=>
    obtain⟨b,rfl,j0,a0⟩:=hcut;clear x0 x1 x2 x3 x4 y0 y1 y2 y3 y4 Z;obtain⟨⟨x0,x1,x2,x3,x4⟩,y0,y1,y2,y3,y4⟩:=h7.out wc a0;have m4:=H_ a0;go_upto_if 37 with (fail)
    go_cut [5,6] (fun s p wx=>∃(q3:Nat) (A3:Option Addr) (c3:Nat),s=.slice A3 q3 c3/\p=.bool (pt||b)/\q3<=200001/\Hid (wx.ownsRow W.heap.size 49 5 (.slice A3 q3 c3) q3 (itc (if b=true then r.1++[x] else r.1))/\q3=(if b=true then r.1++[x] else r.1).length)/\Hid (BoxO wx 49 gy y.cells)/\Below W.heap.size W wx)
    case first=>
     cases b with
     |false=>
      go_wp2_with fail
      go_meet
      exact⟨q,A2,c2,rfl,by simp,o_,H_ ⟨by simpa using own_below h8.out a0,by simpa using b7.out⟩,H_ (i8.out.below a0),az c9.out a0⟩
     |true=>
      have Q:=b_ wc (.cells #[.int .i64 x.s,.int .i64 x.k,.int .u64 (x.t:Int),.int .u64 (x.v:Int),.int .i64 x.x] 49);have HR:=H_ (az1 (show BoxO (wc.alloc (.cells #[.int .i64 x.s,.int .i64 x.k,.int .u64 (x.t:Int),.int .u64 (x.v:Int),.int .i64 x.x] 49)) 49 wc.heap.size x.cells from BoxO.new wc #[.int .i64 x.s,.int .i64 x.k,.int .u64 (x.t:Int),.int .u64 (x.v:Int),.int .i64 x.x] 49));have HO:=H_ (own_below (own_below h8.out a0) Q);have HB:=H_ (az (az c9.out a0) Q);have HX:=H_ (show itc r.1++x.cells=itc (r.1++[x]) by rw[lq];simp[itc]);have HY:=H_ ((i8.out.below a0).alloc (.cells #[.int .i64 x.s,.int .i64 x.k,.int .u64 (x.t:Int),.int .u64 (x.v:Int),.int .i64 x.x] 49));have d3:=H_ (show q+1=(r.1++[x]).length by rw[d_,<-b7.out];rfl);clear Q a0;go_wp2_with (at_builtin;refine iy ?_);refine bz (iq rfl (.tmp 38) (.tmp 40) _ rfl W.heap.size 49 i0 _ 5 40 underlying26 f9 f' g0 g1 rfl o_ W HB.out HB.out.size _ q (itc r.1) rfl HO.out (wc.alloc (.cells #[.int .i64 x.s,.int .i64 x.k,.int .u64 (x.t:Int),.int .u64 (x.v:Int),.int .i64 x.x] 49)).heap.size _ 1 1 x.cells rfl HR.out (fun v hv=>uj [x] v (by simpa [itc] using hv)) (q+1) _ rfl HX.out (by unfold maxLen;omega) o_ ?_);intro A3 c3 w5 h1 h2 h3 h4 h5;have H5:=H_ (c_ h1 d3.out);have H6:=H_ (HY.out.uq1 h3 i9.out);clear h1 h3 d3 HX HR HO HB HY;go_wp2
      go_meet
      exact⟨q+1,A3,c3,rfl,by simp,o_,H_ (by simpa using H5.out),H6,h2⟩
    case rest=>
     obtain⟨q3,A3,c3,rfl,rfl,m6,H5,H6,j2⟩:=hcut;clear x0 x1 x2 x3 x4 y0 y1 y2 y3 y4 a0;have e5:=H_ (kv5 x y r HS.out);have hL:(if (!r.2&&x.less y)=true then r.1++[x] else r.1)=(if b=true then r.1++[x] else r.1):=by rw[j0.out,<-b8.out]
     rw[hL,<-b8.out,<-j0.out]at e5;have j3:Hid ((pt||b)=(zq x r y).2):=H_ (by rw[e5.out]);have j4:Hid ((if b=true then r.1++[x] else r.1)++(if x.hides y=true then [] else [y])=(zq x r y).1):=H_ (by rw[e5.out]);generalize (if b=true then r.1++[x] else r.1)=L1 at *;generalize (pt||b)=e6 at *;clear hL e5;obtain⟨x0,x1,x2,x3,x4⟩:=kj2 (g9.out.below j2);obtain⟨y0,y1,y2,y3,y4⟩:=kj2 H6.out;go_wp2_with fail;refine(HC.out.2.2.2.2 y wc).mono ?_;rintro e w6 ⟨rfl,b2⟩;have d1:=az j2 b2;clear x0 x1 x2 x3 x4 y0 y1 y2 y3 y4
     cases hh:x.hides y with
     |true=>
      have c':Hid (RSt W.heap.size w6 l x (k+1) A3 q3 c3 e6):=H_ (by
       have e1:=j4.out;rw[hh,if_pos rfl,ak_]at e1;refine⟨?_,?_,?_,h'.out,i'.out⟩
       ·rw[HT.out.1,<-e1];exact own_below H5.out.1 b2
       ·rw[HT.out.1,<-e1];exact H5.out.2
       ·rw[HT.out.1];exact j3.out)
      clear hh b2;go_wp2;go_roundw
      case rel=>exact⟨k+1,q3,A3,c3,e6,o_,rfl,rfl,by go_num,c',d1⟩
      case measure=>simp[intOf];omega
     |false=>
      obtain⟨y0,y1,y2,y3,y4⟩:=kj2 (H6.out.below b2);have Q:=b_ w6 (.cells #[.int .i64 y.s,.int .i64 y.k,.int .u64 (y.t:Int),.int .u64 (y.v:Int),.int .i64 y.x] 49);have HR:=H_ (az1 (show BoxO (w6.alloc (.cells #[.int .i64 y.s,.int .i64 y.k,.int .u64 (y.t:Int),.int .u64 (y.v:Int),.int .i64 y.x] 49)) 49 w6.heap.size y.cells from BoxO.new w6 #[.int .i64 y.s,.int .i64 y.k,.int .u64 (y.t:Int),.int .u64 (y.v:Int),.int .i64 y.x] 49));have HO:=H_ (own_below (own_below H5.out.1 b2) Q);have HB:=H_ (az d1 Q);have HX:=H_ (show itc L1++y.cells=itc (L1++[y]) by rw[lq];simp[itc]);have e1:=j4.out;rw[hh,if_neg s_]at e1;have j5:=H_ e1;have d3:=H_ (show q3+1=(L1++[y]).length by rw[d_,<-H5.out.2];rfl);clear Q b2 e1 hh d1;go_wp2_with (at_builtin;refine iy ?_);refine bz (iq rfl (.tmp 46) (.tmp 48) _ rfl W.heap.size 49 i0 _ 5 40 underlying26 f9 f' g0 g1 rfl o_ W HB.out HB.out.size _ q3 (itc L1) rfl HO.out (w6.alloc (.cells #[.int .i64 y.s,.int .i64 y.k,.int .u64 (y.t:Int),.int .u64 (y.v:Int),.int .i64 y.x] 49)).heap.size _ 1 1 y.cells rfl HR.out (fun v hv=>uj [y] v (by simpa [itc] using hv)) (q3+1) _ rfl HX.out (by unfold maxLen;omega) o_ ?_);intro A4 c4 w7 h1 h2 h3 h4 h5;have c':Hid (RSt W.heap.size w7 l x (k+1) A4 (q3+1) c4 e6):=H_ (by
       refine⟨?_,?_,?_,h'.out,i'.out⟩
       ·rw[HT.out.1,<-j5.out];exact h1
       ·rw[HT.out.1,<-j5.out];exact d3.out
       ·rw[HT.out.1];exact j3.out)
      clear h1 h3 d3 HX HR HO HB y0 y1 y2 y3 y4;go_wp2;go_roundw
      case rel=>exact⟨k+1,q3+1,A4,c4,e6,o_,rfl,rfl,by go_num,c',h2⟩
      case measure=>simp[intOf];omega
  ·have d4:l.take k=l:=g_ o_
   obtain⟨C,I,J,E,H⟩:=HQ.out;rw[d4]at C I J E H;have U:=e7.out _ _ rfl E H;rw[<-J]at U;have k8:q<=200000:=by
    have h1:=ex2 x l ([],false);rw[<-I]at h1;simp only[V_]at h1;omega
   generalize (l.foldl (zq x) ([],false)).1=L1 at *;have j6:=k5.out.1;have j7:=k3.out
   cases pt with
   |true=>
    rw[if_pos rfl]at U;have HZ:=H_ (sj1.own (A:=A) (l:=l) C o_ (a2.out.trans (a6.mono a2.out.size)) U);clear C I J E H U d4 j6 j7 HQ;go_wp2;go_ret;exact HZ.out
   |false=>
    rw[if_neg s_]at U;obtain⟨x0,x1,x2,x3,x4⟩:=kj2 (g9.out.below a6);have Q:=b_ wr (.cells #[.int .i64 x.s,.int .i64 x.k,.int .u64 (x.t:Int),.int .u64 (x.v:Int),.int .i64 x.x] 49);have HR:=H_ (az1 (show BoxO (wr.alloc (.cells #[.int .i64 x.s,.int .i64 x.k,.int .u64 (x.t:Int),.int .u64 (x.v:Int),.int .i64 x.x] 49)) 49 wr.heap.size x.cells from BoxO.new wr #[.int .i64 x.s,.int .i64 x.k,.int .u64 (x.t:Int),.int .u64 (x.v:Int),.int .i64 x.x] 49));have HO:=H_ (own_below C Q);have HB:=H_ (az a6 Q);have HX:=H_ (show itc L1++x.cells=itc (L1++[x]) by rw[lq];simp[itc]);have HF:=H_ U;have l2:w.heap.size<=W.heap.size:=o_
    clear C I J E H U d4 j6 j7 HQ Q;go_wp2_with (at_builtin;refine iy ?_);refine bz (iq rfl (.tmp 52) (.tmp 54) _ rfl W.heap.size 49 i0 _ 5 40 underlying26 f9 f' g0 g1 rfl o_ W HB.out HB.out.size _ q (itc L1) rfl HO.out (wr.alloc (.cells #[.int .i64 x.s,.int .i64 x.k,.int .u64 (x.t:Int),.int .u64 (x.v:Int),.int .i64 x.x] 49)).heap.size _ 1 1 x.cells rfl HR.out (fun v hv=>uj [x] v (by simpa [itc] using hv)) (q+1) _ rfl HX.out (by unfold maxLen;omega) o_ ?_);intro A3 c3 w5 h1 h2 h3 h4 h5;have HZ:=H_ (sj1.own (A:=A) (l:=l) h1 l2 (a2.out.trans (h2.mono a2.out.size)) HF.out);clear h1 h2 h3 HR HO HB HX x0 x1 x2 x3 x4;go_wp2;go_ret;exact HZ.out
theorem nq2 (A:Option Addr) (n c:Nat) (a:List It) (B:Option Addr) (m d:Nat) (b:List It) (w:World) (e9:n+m<=90000) (hS:Stt a) (ra:Row w.heap.size w A n 5 (itc a)) (rb:Row w.heap.size w B m 5 (itc b)):
  Calls prog 17 #[.slice A n c,.slice B m d] w (sj1 w A a (joins a b)):=by
 have c':=ra.qj;have e':=rb.qj;have a8:=H_ (zq3 A n c a w o_ hS ra);obtain⟨R,hR⟩:=n_ (joins a b);rw[<-hR];have HR:=H_ hR;have HS:=H_ hS;clear hR hS;go_enter func17,ntmps17;go_wp2_with fail;refine a8.out.mono ?_;rintro e w1 ⟨rfl,I⟩;have a9:=(ra.below I).up I.size;go_wp2_with fail
 go_loopw [5,6] (fun v i wr=>∃(k q:Nat) (A2:Option Addr) (c2:Nat),k<=m/\v=.slice A2 q c2/\i=.int .i64 (k:Int)/\Hid (sj1 w A a (joins a (b.take k)) (.returned (.slice A2 q c2)) wr)/\Below w.heap.size w wr) (fun _ i _=>m - (intOf i).toNat)
 case atStart=>exact⟨0,n,A,c,w_ _,rfl,rfl,H_ ⟨A,n,c,rfl,c'.symm,a9,.inl ⟨rfl,rfl⟩,I⟩,I⟩
 case round=>
  obtain⟨k,q,A2,c2,hk,rfl,rfl,HQ,O⟩:=hrel;clear a8 a9 I
  by_cases d1:k < m
  ·obtain⟨p,hl,rfl,d2,hd⟩:=(rb.below O).it d1
   have a0:=nw2 (a:=a) hl;have a':=(uv1 (b.take k) HS.out).1;have b0:=lq2 (b.take k) a;rw[v_]at b0;obtain⟨A3,q3,c3,hv,hq,hrow,hA,_⟩:=HQ.out;injection hv with hv;injection hv with e1 e2 e3;subst e1 e2 e3;have a1:=fun W=>oz3 b[k] W;have E:=fun W (hb:Below wr.heap.size wr W) (hk:(b[k]).ok=true)=>nv4 A2 q c2 (joins a (b.take k)) b[k] W o_ a' hk ((hrow.below hb).up hb.size);rw[<-a0]at E;have b1:(b[k]).ok=false->joins a (b.take (k+1))=joins a (b.take k):=fun h=>by rw[a0];unfold add;simp[h]
   have b2:=fun w' (hb:Below wr.heap.size wr w')=>(show w'.cell? (p.add (k *5))=some (.int .i64 b[k].s)/\w'.cell? ⟨(p.add (k *5)).block,(p.add (k *5)).off+1,none⟩=some (.int .i64 b[k].k)/\w'.cell? ⟨(p.add (k *5)).block,(p.add (k *5)).off+2,none⟩=some (.int .u64 (b[k].t:Int))/\w'.cell? ⟨(p.add (k *5)).block,(p.add (k *5)).off+3,none⟩=some (.int .u64 (b[k].v:Int))/\w'.cell? ⟨(p.add (k *5)).block,(p.add (k *5)).off+4,none⟩=some (.int .i64 b[k].x) from by
    have h1:=hd.below (B:=wr.heap.size) (w':=w') (N_ d2 O.size) hb;exact⟨h1.c0,h1.c1,h1.c2,h1.c3,h1.c4⟩)
   generalize b[k]=x at *;unfold It.val at a1 E;have KC:=H_ b2;have HK:=H_ a1;have d4:=H_ E;have a2:=H_ b1;have H:=H_ (c_ hq (c_ hrow hA));have g1:IntKind.i64.wrap (k:Int)=(k:Int):=D_ _ o_;obtain⟨c0,c1,a4,c3,c4⟩:=KC.out wr b0_;clear b2 a1 E b1 hd a0 a' b0 hq hrow hA HQ;go_wp2_with fail;refine(HK.out wr).mono ?_;rintro e w2 ⟨rfl,C⟩;clear c0 c1 a4 c3 c4
   cases hx:x.ok with
   |false=>
    have J:=az O C;have HZ:Hid (sj1 w A a (joins a (b.take (k+1))) (.returned (.slice A2 q c2)) w2):=H_ ⟨A2,q,c2,rfl,by rw[a2.out hx];exact H.out.1,by rw[a2.out hx];exact(H.out.2.1.below C).up C.size,H.out.2.2.imp (fun z=>⟨z.1,(a2.out hx).trans z.2⟩) (fun z a Q=>⟨(z a Q).1,N_ (z a Q).2 C.size⟩),J⟩;clear C hx;go_wp2;go_roundw
    case rel=>exact⟨k+1,q,A2,c2,o_,rfl,by go_num,HZ,J⟩
    case measure=>simp[intOf];omega
   |true=>
    obtain⟨c0,c1,a4,c3,c4⟩:=KC.out w2 C;have d6:=H_ (d4.out w2 C hx);have d7:=H_ C;have J:=az O C;clear hx C;go_wp2_with fail;refine d6.out.mono ?_;rintro e w3 ⟨A4,q4,a5,rfl,b5,b6,b7,a6⟩;have U:=az J a6;have HZ:Hid (sj1 w A a (joins a (b.take (k+1))) (.returned (.slice A4 q4 a5)) w3):=H_ ⟨A4,q4,a5,rfl,b5,b6,by
     rcases b7 with ⟨rfl,h⟩|h
     ·exact H.out.2.2.imp (fun z=>⟨z.1,h.trans z.2⟩) (fun z a Q=>⟨(z a Q).1,N_ (N_ (z a Q).2 d7.out.size) a6.size⟩)
     ·exact .inr fun a Q=>⟨j_ J.size (h a Q).1,(h a Q).2⟩,U⟩
    clear a6 b5 b6 b7 c0 c1 a4 c3 c4;go_wp2;go_roundw
    case rel=>exact⟨k+1,q4,A4,a5,o_,rfl,by go_num,HZ,U⟩
    case measure=>simp[intOf];omega
  ·have Z:joins a (b.take k)=R:=by rw[g_ o_,HR.out]
   have hz:=HQ.out;rw[Z]at hz;have HZ:=H_ hz;clear hz Z HQ;go_wp2;go_ret;exact HZ.out
theorem xj4 (A:Option Addr) (n c:Nat) (a:List It) (B:Option Addr) (m d:Nat) (b:List It) (w:World) (C:n+m<=90000) (E:Stt a) (H:Row w.heap.size w A n 5 (itc a)) (I:Row w.heap.size w B m 5 (itc b)):
  Calls prog 17 #[.slice A n c,.slice B m d] w (tw3 w A (joins a b)):=(nq2 A n c a B m d b w C E H I).mono fun _ _ h=>h.up
end Go.Proofs.YtkdbagdiplpcfaaGreatDoor
