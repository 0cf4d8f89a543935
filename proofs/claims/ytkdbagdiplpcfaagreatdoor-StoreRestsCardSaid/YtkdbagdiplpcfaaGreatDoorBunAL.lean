/- Some of the texts. No conditions. -/
import Derived.Test.YtkdbagdiplpcfaaGreatDoorBunAG
import Derived.Test.YtkdbagdiplpcfaaGreatDoorBunAJ

set_option linter.unusedSimpArgs false
set_option linter.unusedVariables false
set_option maxRecDepth 100000
set_option maxHeartbeats 16000000
namespace Go.Proofs.YtkdbagdiplpcfaaGreatDoor
open Go.Proofs.Tryz Go Go.RowKit Go.Lib Go.Shelf
structure Its (B:Nat) (w:World) (A:Option Addr) (n c:Nat) (l:List It):Prop where
 row:Row w.heap.size w A n 5 (itc l)
 nc:n<=c
 cm:c<=maxLen
 low:∀a,A=some a->B<=a.block
theorem ny1 (A:Option Addr) (n c:Nat) (w:World) (C:n<=c):Calls prog 99 #[.slice A n c] w fun e w'=>e=.returned (.slice A n n)/\w=w':=by
 have h1:(n:Int)<=(c:Int):=o_
 go_enter func99,ntmps99;go_wp2;go_ret;exact⟨rfl,rfl⟩
theorem Stt.take {l:List It} (h:Stt l) (k:Nat):Stt (l.take k):=
 ⟨h.rises.sublist (cl_ k l),fun y C=>h.ok y (aP_ C),fun a E b H=>h.bare a (aP_ E) b (aP_ H)⟩
theorem Stt.vj4 {l:List It} (h:Stt l) {k:Nat} (C:k < l.length):hidden (l.take k) l[k]=false:=by
 unfold hidden;rw[X_];intro t E;simp[h.bare t (aP_ E) l[k] (u_ C)]
theorem kz43 {P S a oi v} (h:Hv P S a oi v:=by intro w C;(obtain⟨x0,x1,x2,x3,x4⟩:=KC.out w C);go_simp;try (with_reducible rfl)):Hv P S a oi v:=h
theorem kz44 {P S a oi v} (h:Hv P S a oi v:=by intro w C;(obtain⟨⟨x0,x1,x2,x3,x4⟩,y0,y1,y2,y3,y4⟩:=KC.out w C);go_simp;try (with_reducible rfl)):Hv P S a oi v:=h
theorem tq5 (A:Option Addr) (n c:Nat) (l:List It) (w:World) (hn:n<=1000000) (f7:n<=c) (d3:c<=maxLen) (hS:Stt l) (hr:Row w.heap.size w A n 5 (itc l)):
  Calls prog 128 #[.slice A n c] w fun e w'=>e=.returned (.bool true)/\Below w.heap.size w w':=by
 have f8:=hr.qj;have HS:=H_ hS;unfold maxLen at d3;clear hS;go_enter func128,ntmps128;go_wp2
 go_loopw [7] (fun i wr=>∃k:Nat,k<=n/\i=.int .i64 (k:Int)/\Below w.heap.size w wr) (fun i _=>n - (intOf i).toNat)
 case atStart=>exact⟨0,w_ _,rfl,Below.refl _ _⟩
 case round=>
  obtain⟨k,hk,rfl,E⟩:=hrel
  by_cases b7:k < n
  ·obtain⟨a,hl,rfl,d5,c0,c1,c2,c3,c4⟩:=(hr.below E).it b7
   have a8:=HS.out.ok _ (u_ hl);have a9:=HS.out.vj4 hl;have J:=fun W=>sk1 l[k] W;have O:=fun(W:World) (hW:Below wr.heap.size wr W)=>(((hr.below E).up E.size).below hW).up hW.size|>.pre (Nat.le_of_lt b7)
   have Q:=fun(W:World) (hW:Below wr.heap.size wr W)=>oy2 (some a) k c (l.take k) l[k] W o_ (HS.out.take k).rises (HS.out.take k).ok (by rw[dz1];exact O W hW);rw[a9]at Q;simp only[a8]at J;have H:∀(j:Nat) (hj:j < l.length),j < k->It.less l[j] l[k]=true:=fun j hj d6=>ap_.1 HS.out.rises j k hj hl d6;generalize b8:l[k]=x at *;have a0:=b_ wr (.cells #[.int .i64 x.s,.int .i64 x.k,.int .u64 (x.t:Int),.int .u64 (x.v:Int),.int .i64 x.x] 49);have U:BoxO (wr.alloc (.cells #[.int .i64 x.s,.int .i64 x.k,.int .u64 (x.t:Int),.int .u64 (x.v:Int),.int .i64 x.x] 49)) 49 wr.heap.size x.cells:=BoxO.new wr #[.int .i64 x.s,.int .i64 x.k,.int .u64 (x.t:Int),.int .u64 (x.v:Int),.int .i64 x.x] 49;obtain⟨W,a1⟩:=n_ (wr.alloc (.cells #[.int .i64 x.s,.int .i64 x.k,.int .u64 (x.t:Int),.int .u64 (x.v:Int),.int .i64 x.x] 49));obtain⟨g,hg⟩:=n_ wr.heap.size;rw[<-a1]at a0 U;rw[<-hg]at U;have a4:∀w',Below W.heap.size W w'->w'.cell? ⟨g,0,none⟩=some (.int .i64 x.s)/\w'.cell? ⟨g,1,none⟩=some (.int .i64 x.k)/\w'.cell? ⟨g,2,none⟩=some (.int .u64 (x.t:Int))/\w'.cell? ⟨g,3,none⟩=some (.int .u64 (x.v:Int))/\w'.cell? ⟨g,4,none⟩=some (.int .i64 x.x):=fun w' hb=>by
    have hB:=U.below hb;exact⟨hB.cell 0,hB.cell 1,hB.cell 2,hB.cell 3,hB.cell 4⟩
   unfold It.val at J Q;have Z:∀w',Below W.heap.size W w'->Below wr.heap.size wr w':=fun w' h=>az a0 h;have a5:=H_ J;have a6:=H_ Q;have HW:=H_ a1;have HG:=H_ hg;have f9:(k:Int)<=(n:Int):=o_
   have a':k<=c:=o_
   have e6:(k:Int)<=(c:Int):=o_
   have f':IntKind.i64.wrap (k:Int)=(k:Int):=D_ _ o_
   rcases ao_ k with h0|h0
   ·have d7:((0:Int) < (k:Int))=False:=eq_false o_
    have d8:(0 < k)=False:=eq_false o_;clear h0;have KC:=H_ a4;clear a4 J Q a1 hg a8 a9 O H b8 U a0;go_wp2_with fail;rw[<-HW.out,<-HG.out];refine w_h W fun C=>?_;refine w_v 0 C ?_ (k:=kz43);go_simp;refine w_r 1 fun K I=>?_;go_simp
    with_reducible refine(a5.out _).mono ?_
    rintro e w1 ⟨rfl,b0⟩;go_simp;refine I.out _ _ (C.trans (b0.mono C.size)) ?_;clear C I K;intro C;go_simp;refine w_v 2 C ?_ (k:=kz43);go_simp;refine w_v 3 C ?_ (k:=kz43);go_simp;refine w_v 4 C ?_ (k:=kz43);go_simp;refine w_v 5 C ?_ (k:=kz43);go_simp;refine w_v 6 C ?_ (k:=kz43);go_simp;refine wpT0 (i:=7) C ?_;go_simp;refine wpT0 (i:=8) C ?_;go_simp;refine wpT0 (i:=9) C ?_;go_simp;refine wpT0 (i:=10) C ?_;go_simp;refine wpT0 (i:=11) C ?_;go_simp;refine wpT0 (i:=12) C ?_;go_simp;refine wpT0 (i:=13) C ?_;go_simp;refine wpT0 (i:=14) C ?_;go_simp;refine w_v 15 C ?_ (k:=kz43);go_simp;refine w_v 16 C ?_ (k:=kz43);go_simp;refine w_v 17 C ?_ (k:=kz43);go_simp;refine w_v 18 C ?_ (k:=kz43);go_simp;refine w_v 19 C ?_ (k:=kz43);go_simp;refine w_v 20 C ?_ (k:=kz43);go_simp;refine w_v 21 C ?_ (k:=kz43);go_simp;refine w_r 22 fun K I=>?_;go_simp
    with_reducible refine(a6.out _ (Z _ C)).mono ?_
    rintro e w2 ⟨rfl,b1⟩;go_simp;refine I.out _ _ (C.trans (b1.mono C.size)) ?_;clear C I K;intro C;go_simp;refine w_v 23 C ?_ (k:=kz43);go_simp;refine w_d ?_;have b2:=az E (Z _ C);clear C KC a5 a6;go_wp2;go_roundw
    case rel=>exact⟨k+1,o_,by go_num,b2⟩
    case measure=>simp[intOf];omega
   ·obtain⟨j,hj⟩:∃j,k=j+1:=⟨k - 1,o_⟩
    obtain⟨a2,d9,ea,_,hd⟩:=(hr.below E).it (k:=j) o_;injection ea with ea;subst ea;have a7:=fun W=>fz1 l[j] x W;rw[H j d9 o_]at a7;generalize l[j]=y at *;unfold It.val at a7;have a':∀w',Below W.heap.size W w'->(w'.cell? ⟨g,0,none⟩=some (.int .i64 x.s)/\w'.cell? ⟨g,1,none⟩=some (.int .i64 x.k)/\w'.cell? ⟨g,2,none⟩=some (.int .u64 (x.t:Int))/\w'.cell? ⟨g,3,none⟩=some (.int .u64 (x.v:Int))/\w'.cell? ⟨g,4,none⟩=some (.int .i64 x.x))/\w'.cell? (a.add (j *5))=some (.int .i64 y.s)/\w'.cell? ⟨(a.add (j *5)).block,(a.add (j *5)).off+1,none⟩=some (.int .i64 y.k)/\w'.cell? ⟨(a.add (j *5)).block,(a.add (j *5)).off+2,none⟩=some (.int .u64 (y.t:Int))/\w'.cell? ⟨(a.add (j *5)).block,(a.add (j *5)).off+3,none⟩=some (.int .u64 (y.v:Int))/\w'.cell? ⟨(a.add (j *5)).block,(a.add (j *5)).off+4,none⟩=some (.int .i64 y.x):=fun w' hb=>by
     have h2:=hd.below (B:=wr.heap.size) (w':=w') (N_ d5 E.size) (Z _ hb);exact⟨a4 w' hb,h2.c0,h2.c1,h2.c2,h2.c3,h2.c4⟩
    have d7:(0:Int) < (k:Int):=o_
    have d8:0 < k:=h0;have e0:(k:Int) - 1=(j:Int):=o_
    have e1:IntKind.i64.wrap (j:Int)=(j:Int):=D_ _ o_;have g2:IntKind.i64.wrap ((k:Int) - 1)=(j:Int):=by rw[e0];exact e1
    have g4:(j:Int) < (n:Int):=o_
    have KC:=H_ a';have b':=H_ a7;clear a4 J Q a1 hg a8 a9 O H b8 U a0 a' a7 hd hj h0;go_wp2_with fail;rw[<-HW.out,<-HG.out];refine w_h W fun C=>?_;refine w_v 0 C ?_ (k:=kz44);go_simp;refine w_r 1 fun K I=>?_;go_simp
    with_reducible refine(a5.out _).mono ?_
    rintro e w1 ⟨rfl,b0⟩;go_simp;refine I.out _ _ (C.trans (b0.mono C.size)) ?_;clear C I K;intro C;go_simp;refine w_v 2 C ?_ (k:=kz44);go_simp;refine w_v 3 C ?_ (k:=kz44);go_simp;refine w_v 4 C ?_ (k:=kz44);go_simp;refine w_v 5 C ?_ (k:=kz44);go_simp;refine w_v 6 C ?_ (k:=kz44);go_simp;refine w_v 7 C ?_ (k:=kz44);go_simp;refine w_v 8 C ?_ (k:=kz44);go_simp;refine w_v 9 C ?_ (k:=kz44);go_simp;refine w_v 10 C ?_ (k:=kz44);go_simp;refine w_v 11 C ?_ (k:=kz44);go_simp;refine w_v 12 C ?_ (k:=kz44);go_simp;refine w_r 13 fun K I=>?_;go_simp
    with_reducible refine(b'.out _).mono ?_
    rintro e w3 ⟨rfl,e2⟩;go_simp;refine I.out _ _ (C.trans (e2.mono C.size)) ?_;clear C I K;intro C;go_simp;refine w_v 14 C ?_ (k:=kz44);go_simp;refine w_v 15 C ?_ (k:=kz44);go_simp;refine w_v 16 C ?_ (k:=kz44);go_simp;refine w_v 17 C ?_ (k:=kz44);go_simp;refine w_v 18 C ?_ (k:=kz44);go_simp;refine w_v 19 C ?_ (k:=kz44);go_simp;refine w_v 20 C ?_ (k:=kz44);go_simp;refine w_v 21 C ?_ (k:=kz44);go_simp;refine w_r 22 fun K I=>?_;go_simp
    with_reducible refine(a6.out _ (Z _ C)).mono ?_
    rintro e w2 ⟨rfl,b1⟩;go_simp;refine I.out _ _ (C.trans (b1.mono C.size)) ?_;clear C I K;intro C;go_simp;refine w_v 23 C ?_ (k:=kz44);go_simp;refine w_d ?_;have b2:=az E (Z _ C);clear C KC a5 a6 b';go_wp2;go_roundw
    case rel=>exact⟨k+1,o_,by go_num,b2⟩
    case measure=>simp[intOf];omega
  ·go_wp2
   go_ret;exact⟨rfl,E⟩
theorem nw2 {a b:List It} {k:Nat} (h:k < b.length):joins a (b.take (k+1))=add (joins a (b.take k)) b[k]:=by
 unfold joins;rw[r_ h,a6_];rfl
def zy (w:World) (R:List It) (e:Ending) (w':World):Prop:=∃A' k,e=.returned (.slice A' k k)/\k=R.length/\Its w.heap.size w' A' k k R/\Below w.heap.size w w'
theorem vj3 (A:Option Addr) (n c:Nat) (a:List It) (B:Option Addr) (m d:Nat) (b:List It) (w:World) (e4:n+m<=900000) (d0:n<=c) (d1:c<=maxLen) (hS:Stt a) (ra:Row w.heap.size w A n 5 (itc a)) (rb:Row w.heap.size w B m 5 (itc b)):
  Calls prog 55 #[.slice A n c,.slice B m d] w (zy w (joins a b)):=by
 have d3:=ra.qj;have e5:=rb.qj;have a0:=sj5 A n c a w o_ ra;have a1:=fun W (hb:Below w.heap.size w W)=>tq5 A n c a W o_ d0 d1 hS ((ra.below hb).up hb.size);obtain⟨R,hR⟩:=n_ (joins a b);rw[<-hR];have HR:=H_ hR;have a2:=H_ a0;have a4:=H_ a1;have HS:=H_ hS;clear a0 a1 hR hS ra;go_enter func55,ntmps55;go_wp2_with fail;refine a2.out.mono ?_;rintro e w1 ⟨A1,c1,rfl,a5,O⟩;have a6:=H_ a5;clear a2 a5;go_wp2_with fail;refine(a4.out _ O).mono ?_;rintro e w2 ⟨rfl,Q⟩;have a7:=az O Q;have a8:=own_below a6.out Q;have a9:=H_ a8;clear a8 a6 O Q a4;go_wp2_with fail
 go_loopw [5,17] (fun v i wr=>∃(k q:Nat) (A2:Option Addr) (c2:Nat),k<=m/\v=.slice A2 q c2/\i=.int .i64 (k:Int)/\Hid (q=(joins a (b.take k)).length/\wr.ownsRow w.heap.size 49 5 (.slice A2 q c2) q (itc (joins a (b.take k))))/\Below w.heap.size w wr) (fun _ i _=>m - (intOf i).toNat)
 case atStart=>exact⟨0,n,A1,c1,w_ _,rfl,rfl,H_ ⟨d3.symm,a9.out⟩,a7⟩
 case round=>
  obtain⟨k,q,A2,c2,hk,rfl,rfl,HQ,C⟩:=hrel;clear a9 a7
  by_cases d5:k < m
  ·obtain⟨p,hl,rfl,f5,c0,c1,f6,c3,c4⟩:=(rb.below C).it d5
   have a':=nw2 (a:=a) hl;have b0:=(uv1 (b.take k) HS.out).1;have b1:=lq2 (b.take k) a;rw[v_]at b1;have d6:=HQ.out.1;have b2:=own_below HQ.out.2 (b_ wr (.cells #[.int .i64 (b[k]).s,.int .i64 (b[k]).k,.int .u64 ((b[k]).t:Int),.int .u64 ((b[k]).v:Int),.int .i64 (b[k]).x] 49));have E:=ly5 w.heap.size A2 q c2 _ b[k] _ o_ (j_ C.size s_) b0 b2;rw[<-a']at E;generalize b[k]=x at *;unfold It.val at E;have b3:=C.alloc C.size (.cells #[.int .i64 x.s,.int .i64 x.k,.int .u64 (x.t:Int),.int .u64 (x.v:Int),.int .i64 x.x] 49);have U:=H_ (c_ E b3);clear E b3 b2 b0 a' b1 d6;go_wp2_with fail;refine U.out.1.mono ?_;rintro e w5 ⟨k5,A5,c5,rfl,b5,b6,b7⟩;have H5:=H_ (c_ (c_ b5 b6) (U.out.2.trans b7));clear b5 b6 b7 U HQ;go_wp2;go_roundw
   case rel=>exact⟨k+1,k5,A5,c5,o_,rfl,by go_num,H_ H5.out.1,H5.out.2⟩
   case measure=>simp[intOf];omega
  ·have H:joins a (b.take k)=R:=by rw[g_ o_,HR.out]
   have hq:=HQ.out;rw[H]at hq;obtain⟨A3,c3,hv,Z,b9,I⟩:=gz hq.2;injection hv with e1 e2 e3;subst e1 e3;have J:Its w.heap.size wr A2 q q R:=⟨Row.own hq.2,y_ _,j_ Z b9,fun p hp=>(I p hp).1⟩;have b':=ny1 A2 q c2 wr Z;have HF:=H_ (c_ hq.1 J);have d7:=H_ b';clear b' J hq H I Z b9;go_wp2_with fail;refine d7.out.mono ?_;rintro e w6 ⟨rfl,rfl⟩;go_wp2;go_ret;exact⟨A2,q,rfl,HF.out.1,HF.out.2,C⟩
theorem rv5 (B:Option Addr) (m d:Nat) (b:List It) (w:World) (C:m<=900000) (E:Row w.heap.size w B m 5 (itc b)):Calls prog 31 #[.slice B m d] w (zy w (ofs b)):=by
 have hj:=vj3 none 0 0 [] B m d b w o_ l_ z_ Stt.nil Row.nil_ E;have I:=H_ hj;clear hj;go_enter func31,ntmps31;go_wp2_with fail;refine I.out.mono ?_;rintro e O ⟨J,k,rfl,h1,h2,h3⟩;have H:=H_ (c_ h1 (c_ h2 h3));clear h1 h2 h3;go_wp2;go_ret;exact⟨J,k,rfl,H.out.1,H.out.2.1,H.out.2.2⟩
theorem az1 {w:World} {C:Nat} {x:It} (E:BoxO w 49 C x.cells):Row w.heap.size w (some ⟨C,0,none⟩) 1 5 x.cells:=⟨rfl,fun j hj=>⟨_,rfl,E.lt,by
 rw[show ((⟨C,0,none⟩:Addr).add j)=⟨C,j,none⟩ by rw[Addr.add_lit,an_],E.cell];exact h_ hj⟩⟩
theorem xj2 (K:Nat) (hF:∀args w,(callFunc K args).run prog w=.ok (.enter K args) w) (O:Array Value) (P:It->Bool) (A:Option Addr) (n c:Nat) (l:List It) (w:World) (hn:n<=1000000) (hr:Row w.heap.size w A n 5 (itc l))
  (hK:∀x w1,Below w.heap.size w w1->Calls prog K (#[x.val] ++O) w1 fun e w'=>e=.returned (.bool (P x))/\Below w1.heap.size w1 w'):
  Calls prog 154 #[.slice A n c,.func (.func K) #[] O] w (zy w (l.filter P)):=by
 have f7:=hr.qj;obtain⟨i0,d3,d4,d5,d6⟩:=info_parts qw;have HF:=H_ hF;have HK:=H_ hK;clear hF hK;go_enter func154,ntmps154;go_wp2
 go_loopw [5,10] (fun v i wr=>∃(k q:Nat) (A2:Option Addr) (c2:Nat),k<=n/\v=.slice A2 q c2/\i=.int .i64 (k:Int)/\Hid (q=((l.take k).filter P).length/\wr.ownsRow w.heap.size 49 5 (.slice A2 q c2) q (itc ((l.take k).filter P)))/\Below w.heap.size w wr) (fun _ i _=>n - (intOf i).toNat)
 case atStart=>exact⟨0,0,none,0,w_ _,rfl,rfl,H_ ⟨rfl,E_ _ _ _ _⟩,Below.refl _ _⟩
 case round=>
  obtain⟨k,q,A2,c2,hk,rfl,rfl,Q,H⟩:=hrel
  by_cases d7:k < n
  ·obtain⟨p,hl,rfl,g1,c0,c1,a',c3,c4⟩:=(hr.below H).it d7
   have a1:=fw1 (P:=P) hl;have g2:q<=1000000:=by
    have h1:=Q.out.1;have h2:=L_ P (l.take k);rw[v_]at h2;omega
   generalize l[k]=x at *;have b5:=H.alloc H.size (.cells #[.int .i64 x.s,.int .i64 x.k,.int .u64 (x.t:Int),.int .u64 (x.v:Int),.int .i64 x.x] 49);have a2:=b_ wr (.cells #[.int .i64 x.s,.int .i64 x.k,.int .u64 (x.t:Int),.int .u64 (x.v:Int),.int .i64 x.x] 49);have a4:BoxO (wr.alloc (.cells #[.int .i64 x.s,.int .i64 x.k,.int .u64 (x.t:Int),.int .u64 (x.v:Int),.int .i64 x.x] 49)) 49 wr.heap.size x.cells:=BoxO.new wr #[.int .i64 x.s,.int .i64 x.k,.int .u64 (x.t:Int),.int .u64 (x.v:Int),.int .i64 x.x] 49;have I:=HK.out x _ b5;unfold It.val at I;obtain⟨b,hb⟩:=n_ (P x);rw[<-hb]at I a1;have a5:=H_ I;have E:=H_ a1;clear I a1 hb;go_wp2_with fail;rw[HF.out,Oper.upon_enter];refine a5.out.mono ?_;rintro e w2 ⟨rfl,a6⟩;have b6:=az b5 (a6);have J:=own_below (own_below Q.out.2 a2) a6;have C:=a4.below a6;generalize wr.heap.size=g at *
   cases b with
   |false=>
    have H3:=H_ (c_ (show q=((l.take (k+1)).filter P).length by rw[E.out];simpa using Q.out.1) (show w2.ownsRow w.heap.size 49 5 (.slice A2 q c2) q (itc ((l.take (k+1)).filter P)) by rw[E.out];simpa using J));clear a5 E Q J a4 C a2 c0 c1 a' c3 c4;go_wp2;go_roundw
    case rel=>exact⟨k+1,q,A2,c2,o_,rfl,by go_num,H3.out,b6⟩
    case measure=>simp[intOf];omega
   |true=>
    have b0:=C.cell 0;have b1:=C.cell 1;have b2:=C.cell 2;have b3:=C.cell 3;have b4:=C.cell 4;simp only[It.cells,gE0,gE1]at b0 b1 b2 b3 b4;have b7:BoxO (w2.alloc (.cells #[.int .i64 x.s,.int .i64 x.k,.int .u64 (x.t:Int),.int .u64 (x.v:Int),.int .i64 x.x] 49)) 49 w2.heap.size x.cells:=BoxO.new w2 #[.int .i64 x.s,.int .i64 x.k,.int .u64 (x.t:Int),.int .u64 (x.v:Int),.int .i64 x.x] 49;have a7:=b_ w2 (.cells #[.int .i64 x.s,.int .i64 x.k,.int .u64 (x.t:Int),.int .u64 (x.v:Int),.int .i64 x.x] 49);have b8:=own_below J a7;have b9:=az b6 a7;have hrow:=az1 b7;have HX:=H_ (show itc ((l.take k).filter P)++x.cells=itc ((l.take (k+1)).filter P) by rw[E.out,if_pos rfl,lq];simp[itc]);have b':=H_ (show q+1=((l.take (k+1)).filter P).length by rw[E.out,if_pos rfl,d_,<-Q.out.1];rfl);have HR:=H_ hrow;have HO:=H_ b8;have HB:=H_ b9;clear a5 E Q J b8 a4 C a2 c0 c1 a' c3 c4 hrow b7 a7 b9;go_wp2_with (at_builtin;refine iy ?_);refine bz (iq rfl (.tmp 17) (.tmp 19) _ rfl w.heap.size 49 i0 _ 5 40 underlying26 d3 d4 d5 d6 rfl o_ w HB.out HB.out.size _ q (itc ((l.take k).filter P)) rfl HO.out (w2.alloc (.cells #[.int .i64 x.s,.int .i64 x.k,.int .u64 (x.t:Int),.int .u64 (x.v:Int),.int .i64 x.x] 49)).heap.size _ 1 1 x.cells rfl HR.out (fun v hv=>uj [x] v (by simpa [itc] using hv)) (q+1) _ rfl HX.out (by unfold maxLen;omega) o_ ?_);intro A3 c3 w5 h1 h2 h3 h4 h5;have H5:=H_ (c_ b'.out h1);clear h1 h3 b' HX HR HO HB b0 b1 b2 b3 b4;go_wp2;go_roundw
    case rel=>exact⟨k+1,q+1,A3,c3,o_,rfl,by go_num,H5.out,h2⟩
    case measure=>simp[intOf];omega
  ·have U:l.take k=l:=g_ o_
   have hq:=Q.out;rw[U]at hq;obtain⟨A3,c3,hv,a8,c',Z⟩:=gz hq.2;injection hv with e1 e2 e3;subst e1 e3;have a0:Its w.heap.size wr A2 q q (l.filter P):=⟨Row.own hq.2,y_ _,j_ a8 c',fun p hp=>(Z p hp).1⟩;have d0:=ny1 A2 q c2 wr a8;have d1:=H_ (c_ hq.1 a0);have d':=H_ d0;clear d0 a0 hq U Z a8 c' Q;go_wp2_with fail;refine d'.out.mono ?_;rintro e w6 ⟨rfl,rfl⟩;go_wp2;go_ret;exact⟨A2,q,rfl,d1.out.1,d1.out.2,H⟩
theorem aw4 (a:It) (v b:Nat) (w:World) (O:w.cell? ⟨b,0,none⟩=some (.int .u64 (v:Int))):
  Calls prog 155 (#[a.val] ++#[.pointer (some ⟨b,0,none⟩)]) w fun e w'=>e=.returned (.bool (!(a.k==1&&decide (a.v<=v))))/\Below w.heap.size w w':=by
 obtain⟨Q,I,t1,J,U⟩:=a;have C:=b_ w (.cells #[.int .i64 Q,.int .i64 I,.int .u64 (t1:Int),.int .u64 (J:Int),.int .i64 U] 49);have Z:∀o,(w.alloc o).cell? ⟨b,0,none⟩=some (.int .u64 (v:Int)):=fun o=>(R_ w o _ (M_ w _ O)).trans O;obtain⟨r,E⟩:=n_ ( !(I==1&&decide (J<=v)));unfold It.val;simp only;rw[<-E]
 by_cases h1:I=1
 ·subst h1
  by_cases h2:(v:Int) < (J:Int)
  ·have H:=H_ (E.trans (show _=true by simp;omega))
   clear E;go_enter func155,ntmps155;go_wp2;go_ret;exact⟨ik H.out.symm,C⟩
  ·have H:=H_ (E.trans (show _=false by simp;omega))
   clear E;go_enter func155,ntmps155;go_wp2;go_ret;exact⟨ik H.out.symm,C⟩
 ·have e1:(I==1)=false:=by simpa using h1
  have H:=H_ (E.trans (show _=true by simp[h1]));clear E;go_enter func155,ntmps155;go_wp2;go_ret;exact⟨ik H.out.symm,C⟩
theorem ck4 (A:Option Addr) (n c:Nat) (l:List It) (v:Nat) (w:World) (Z:n<=1000000) (J:Row w.heap.size w A n 5 (itc l)):
  Calls prog 74 #[.slice A n c,.int .u64 (v:Int)] w (zy w (yj l v)):=by
 have C:=b_ w (.cells #[.int .u64 (v:Int)] 27);have E:=BoxO.new w #[.int .u64 (v:Int)] 27;have O:=xj2 155 (fun _ _=>rfl) #[.pointer (some ⟨w.heap.size,0,none⟩)] (fun a=>!(a.k==1&&decide (a.v<=v))) A n c l (w.alloc (.cells #[.int .u64 (v:Int)] 27)) Z ((J.below C).up C.size)
  (fun x I hw=>aw4 x v w.heap.size I (by rw[(E.below hw).cell];rfl))
 have Q:=H_ O;unfold yj;clear O J E;go_enter func74,ntmps74;go_wp2_with fail;refine Q.out.mono ?_;rintro e I ⟨U,k,rfl,h1,h2,h3⟩;have H:=H_ (show zy w (l.filter fun a=>!(a.k==1&&decide (a.v<=v))) (.returned (.slice U k k)) I from ⟨U,k,rfl,h1,⟨h2.row,h2.nc,h2.cm,fun p hp=>j_ C.size (h2.low p hp)⟩,az C h3⟩);clear h1 h2 h3 Q C;go_wp2;go_ret;exact H.out
theorem jx3 (a:It) (s:Int) (b:Nat) (w:World) (E:w.cell? ⟨b,0,none⟩=some (.int .i64 s)):
  Calls prog 216 (#[a.val] ++#[.pointer (some ⟨b,0,none⟩)]) w fun e w'=>e=.returned (.bool (a.s==s))/\Below w.heap.size w w':=by
 have C:=b_ w (.cells #[.int .i64 a.s,.int .i64 a.k,.int .u64 (a.t:Int),.int .u64 (a.v:Int),.int .i64 a.x] 49);have H:∀o,(w.alloc o).cell? ⟨b,0,none⟩=some (.int .i64 s):=fun o=>(R_ w o _ (M_ w _ E)).trans E;unfold It.val;go_enter func216,ntmps216;go_wp2;go_ret;exact⟨rfl,C⟩
theorem jv3 (A:Option Addr) (n c:Nat) (l:List It) (s:Int) (w:World) (Z:n<=1000000) (J:Row w.heap.size w A n 5 (itc l)):
  Calls prog 161 #[.slice A n c,.int .i64 s] w (zy w (l.filter fun a=>a.s==s)):=by
 have C:=b_ w (.cells #[.int .i64 s] 3);have E:=BoxO.new w #[.int .i64 s] 3;have O:=xj2 216 (fun _ _=>rfl) #[.pointer (some ⟨w.heap.size,0,none⟩)] (fun a=>a.s==s) A n c l (w.alloc (.cells #[.int .i64 s] 3)) Z ((J.below C).up C.size)
  (fun x I hw=>jx3 x s w.heap.size I (by rw[(E.below hw).cell];rfl))
 have Q:=H_ O;clear O J E;go_enter func161,ntmps161;go_wp2_with fail;refine Q.out.mono ?_;rintro e I ⟨U,k,rfl,h1,h2,h3⟩;have H:=H_ (show zy w (l.filter fun a=>a.s==s) (.returned (.slice U k k)) I from ⟨U,k,rfl,h1,⟨h2.row,h2.nc,h2.cm,fun p hp=>j_ C.size (h2.low p hp)⟩,az C h3⟩);clear h1 h2 h3 Q C;go_wp2;go_ret;exact H.out
def inRange (s:Int) (lo hi:Nat) (a:It):Bool:=a.s==s&&(a.k==2&&(decide (lo<=a.t) &&decide (a.t<=hi)))
theorem fx4 (a:It) (s:Int) (lo hi:Nat) (b:Nat) (w:World) (O:w.cell? ⟨b,0,none⟩=some (.int .i64 s)) (Q:w.cell? ⟨b+1,0,none⟩=some (.int .u64 (lo:Int))) (U:w.cell? ⟨b+1+1,0,none⟩=some (.int .u64 (hi:Int))):
  Calls prog 217 (#[a.val] ++#[.pointer (some ⟨b,0,none⟩),.pointer (some ⟨b+1,0,none⟩),.pointer (some ⟨b+1+1,0,none⟩)]) w fun e w'=>e=.returned (.bool (inRange s lo hi a))/\Below w.heap.size w w':=by
 obtain⟨I,J,t1,Z,x1⟩:=a;have E:=b_ w (.cells #[.int .i64 I,.int .i64 J,.int .u64 (t1:Int),.int .u64 (Z:Int),.int .i64 x1] 49);have a1:∀o,(w.alloc o).cell? ⟨b,0,none⟩=some (.int .i64 s):=fun o=>(R_ w o _ (M_ w _ O)).trans O;have a2:∀o,(w.alloc o).cell? ⟨b+1,0,none⟩=some (.int .u64 (lo:Int)):=fun o=>(R_ w o _ (M_ w _ Q)).trans Q;have a4:∀o,(w.alloc o).cell? ⟨b+1+1,0,none⟩=some (.int .u64 (hi:Int)):=fun o=>(R_ w o _ (M_ w _ U)).trans U;obtain⟨r,C⟩:=n_ (inRange s lo hi ⟨I,J,t1,Z,x1⟩);unfold It.val;simp only;rw[<-C];unfold inRange at C;simp only at C
 by_cases h1:I=s
 ·subst h1
  by_cases h2:J=2
  ·subst h2
   by_cases h3:(lo:Int)<=(t1:Int)
   ·by_cases h4:(t1:Int)<=(hi:Int)
    ·have H:=H_ (C.trans (show _=true by simp;omega))
     clear C;go_enter func217,ntmps217;go_wp2;go_ret;exact⟨ik H.out.symm,E⟩
    ·have H:=H_ (C.trans (show _=false by simp;omega))
     clear C;go_enter func217,ntmps217;go_wp2;go_ret;exact⟨ik H.out.symm,E⟩
   ·have H:=H_ (C.trans (show _=false by simp;omega))
    clear C;go_enter func217,ntmps217;go_wp2;go_ret;exact⟨ik H.out.symm,E⟩
  ·have e2:(J==2)=false:=by simpa using h2
   have H:=H_ (C.trans (show _=false by simp[h2]));clear C;go_enter func217,ntmps217;go_wp2;go_ret;exact⟨ik H.out.symm,E⟩
 ·have e1:(I==s)=false:=by simpa using h1
  have H:=H_ (C.trans (show _=false by simp[h1]));clear C;go_enter func217,ntmps217;go_wp2;go_ret;exact⟨ik H.out.symm,E⟩
theorem cv4 (A:Option Addr) (n c:Nat) (l:List It) (s:Int) (lo hi:Nat) (w:World) (hn:n<=1000000) (U:Row w.heap.size w A n 5 (itc l)):
  Calls prog 162 #[.slice A n c,.int .i64 s,.int .u64 (lo:Int),.int .u64 (hi:Int)] w (zy w (l.filter (inRange s lo hi))):=by
 have C:Below w.heap.size w (((w.alloc (.cells #[.int .i64 s] 3)).alloc (.cells #[.int .u64 (lo:Int)] 27)).alloc (.cells #[.int .u64 (hi:Int)] 27)):=((b_ w _).alloc s_ _).alloc (by simp;omega) _;have J:=((BoxO.new w #[.int .i64 s] 3).alloc (.cells #[.int .u64 (lo:Int)] 27)).alloc (.cells #[.int .u64 (hi:Int)] 27);have E:=(BoxO.new (w.alloc (.cells #[.int .i64 s] 3)) #[.int .u64 (lo:Int)] 27).alloc (.cells #[.int .u64 (hi:Int)] 27);have I:=BoxO.new ((w.alloc (.cells #[.int .i64 s] 3)).alloc (.cells #[.int .u64 (lo:Int)] 27)) #[.int .u64 (hi:Int)] 27;simp only[Q_]at E I;have Z:=xj2 217 (fun _ _=>rfl) #[.pointer (some ⟨w.heap.size,0,none⟩),.pointer (some ⟨w.heap.size+1,0,none⟩),.pointer (some ⟨w.heap.size+1+1,0,none⟩)] (inRange s lo hi) A n c l (((w.alloc (.cells #[.int .i64 s] 3)).alloc (.cells #[.int .u64 (lo:Int)] 27)).alloc (.cells #[.int .u64 (hi:Int)] 27)) hn ((U.below C).up C.size)
  (fun x O Q=>fx4 x s lo hi w.heap.size O (by rw[(J.below Q).cell];rfl) (by rw[(E.below Q).cell];rfl) (by rw[(I.below Q).cell];rfl))
 have HO:=H_ Z;clear Z U J E I;go_enter func162,ntmps162;go_wp2_with fail;refine HO.out.mono ?_;rintro e O ⟨A1,k,rfl,h1,h2,h3⟩;have H:=H_ (show zy w (l.filter (inRange s lo hi)) (.returned (.slice A1 k k)) O from ⟨A1,k,rfl,h1,⟨h2.row,h2.nc,h2.cm,fun p hp=>j_ C.size (h2.low p hp)⟩,az C h3⟩);clear h1 h2 h3 HO C;go_wp2;go_ret;exact H.out
def isAt (s:Int) (t:Nat) (a:It):Bool:=a.s==s&&(a.k==2&&a.t==t)
theorem vv4 {P:It->Bool} {l:List It} {k:Nat} (H:k < l.length) (C:(l.take k).any P=false) (h1:P l[k]=true):l.find? P=some l[k]:=by
 have e:l=l.take k++l[k]::l.drop (k+1):=by rw[bZ_,al_]
 have h2:(l.take k).find? P=none:=bz_.2 fun y E=>by
  have:=(X_.1 C) y E;simpa using this
 conv=>lhs;rw[e]
 rw[a9_,h2,List.find?_cons_of_pos h1];rfl
theorem lw5 (A:Option Addr) (n c:Nat) (l:List It) (s:Int) (t:Nat) (w:World) (hn:n<=1000000) (hr:Row w.heap.size w A n 5 (itc l)):
  Calls prog 67 #[.slice A n c,.int .i64 s,.int .u64 (t:Int)] w fun e w'=>e=.returned (.tuple #[((l.find? (isAt s t)).getD It.none_).val,.bool (l.find? (isAt s t)).isSome])/\Below w.heap.size w w':=by
 have b':=hr.qj;obtain⟨R,hR⟩:=n_ (l.find? (isAt s t));rw[<-hR];have HR:=H_ hR;clear hR;have Q:=b_ w (.cells #[.int .i64 0,.int .i64 0,.int .u64 0,.int .u64 0,.int .i64 0] 49);have a0:=BoxO.new w #[.int .i64 0,.int .i64 0,.int .u64 0,.int .u64 0,.int .i64 0] 49;have a7:=(hr.below Q).up Q.size;obtain⟨V,hV⟩:=n_ (w.alloc (.cells #[.int .i64 0,.int .i64 0,.int .u64 0,.int .u64 0,.int .i64 0] 49));obtain⟨g,hg⟩:=n_ w.heap.size;have H:w.heap.size<=g:=o_
 rw[<-hV]at Q a0 a7;rw[<-hg]at a0;have HV:=H_ hV;have HG:=H_ hg;clear hV hg hr;go_enter func67,ntmps67;go_wp2_with fail;rw[<-HV.out,<-HG.out]
 go_loopw [12] (fun i wr=>∃k:Nat,k<=n/\i=.int .i64 (k:Int)/\Hid ((l.take k).any (isAt s t)=false)/\Below V.heap.size V wr) (fun i _=>n - (intOf i).toNat)
 case atStart=>exact⟨0,w_ _,rfl,H_ rfl,Below.refl _ _⟩
 case round=>
  obtain⟨k,hk,rfl,HA,a1⟩:=hrel;have E:=a0.below a1;have d0:=a0.lt
  by_cases b6:k < n
  ·obtain⟨a,hl,rfl,d1,c0,c1,c2,c3,c4⟩:=(a7.below a1).it b6
   have J:=fun h=>vv4 (P:=isAt s t) hl HA.out h;have O:=kv1 (P:=isAt s t) hl;generalize l[k]=x at *;have a8:=b_ wr (.cells #[.int .i64 x.s,.int .i64 x.k,.int .u64 (x.t:Int),.int .u64 (x.v:Int),.int .i64 x.x] 49);have a2:=az a1 a8;have U:=az Q a2;have C:=E.below a8;obtain⟨b,Z⟩:=n_ (isAt s t x);rw[<-Z]at J O;have a9:=H_ J;have a4:=H_ O;unfold isAt at Z;have go:∀{b:Bool},b=false->Hid (b=false):=fun h=>H_ h
   by_cases h1:x.s=s
   ·by_cases h2:x.k=2
    ·by_cases h3:x.t=t
     ·have I:b=true:=by rw[Z];simp[h1,h2,h3]
      subst I;have a':=a9.out rfl;have HF:=H_ (HR.out.trans a');have e1:(x.s==s)=true:=by simp[h1]
      have e2:(x.k==2)=true:=by simp[h2]
      have e3:((x.t:Int)==(t:Int))=true:=by simp[h3]
      have z0:=C.free 0;have z1:=C.free 1;have z2:=C.free 2;have z3:=C.free 3;have z4:=C.free 4;have s0:=C.c0;have s1:=C.c1;have s2:=C.c2;have s3:=C.c3;have s4:=C.c4;clear J O Z a' E C h1 h2 h3 a9 a4;go_wp2;refine bodyPost_ret (v:=.tuple #[.agg #[.int .i64 x.s,.int .i64 x.k,.int .u64 (x.t:Int),.int .u64 (x.v:Int),.int .i64 x.x],.bool true]) (by simp[results,go_sem, *]) rfl ⟨by rw[HF.out];rfl,?_⟩;exact((((U.setCell (p:=⟨g,0,none⟩) H _).setCell (p:=⟨g,1,none⟩) H _).setCell (p:=⟨g,2,none⟩) H _).setCell (p:=⟨g,3,none⟩) H _).setCell (p:=⟨g,4,none⟩) H _
     ·have I:b=false:=by rw[Z];simp[h3]
      subst I;have e1:(x.s==s)=true:=by simp[h1]
      have e2:(x.k==2)=true:=by simp[h2]
      have e3:((x.t:Int)==(t:Int))=false:=by rw[beq_eq_false_iff_ne];omega
      clear J O Z E C h1 h2 h3;go_wp2;go_roundw
      case rel=>exact⟨k+1,o_,by go_num,H_ (by rw[a4.out,HA.out];rfl),a2⟩
      case measure=>simp[intOf];omega
    ·have I:b=false:=by rw[Z];simp[h2]
     subst I;have e1:(x.s==s)=true:=by simp[h1]
     have e2:(x.k==2)=false:=by simpa using h2
     clear J O Z E C h1 h2;go_wp2;go_roundw
     case rel=>exact⟨k+1,o_,by go_num,H_ (by rw[a4.out,HA.out];rfl),a2⟩
     case measure=>simp[intOf];omega
   ·have I:b=false:=by rw[Z];simp[h1]
    subst I;have e1:(x.s==s)=false:=by simpa using h1
    clear J O Z E C h1;go_wp2;go_roundw
    case rel=>exact⟨k+1,o_,by go_num,H_ (by rw[a4.out,HA.out];rfl),a2⟩
    case measure=>simp[intOf];omega
  ·have a5:R=none:=by
    rw[HR.out];refine bz_.2 fun y hy=>?_;have h:=HA.out;rw[g_ o_]at h;exact(X_.1 h) y hy
   subst a5;have z0:=E.free 0;have z1:=E.free 1;have z2:=E.free 2;have z3:=E.free 3;have z4:=E.free 4;have s0:=E.c0;have s1:=E.c1;have s2:=E.c2;have s3:=E.c3;have s4:=E.c4;have U:=az Q a1;clear E HA HR;go_wp2;refine bodyPost_ret (v:=.tuple #[.agg #[.int .i64 0,.int .i64 0,.int .u64 0,.int .u64 0,.int .i64 0],.bool false]) (by simp[results,go_sem, *]) rfl ⟨rfl,?_⟩;exact((((U.setCell (p:=⟨g,0,none⟩) H _).setCell (p:=⟨g,1,none⟩) H _).setCell (p:=⟨g,2,none⟩) H _).setCell (p:=⟨g,3,none⟩) H _).setCell (p:=⟨g,4,none⟩) H _
theorem mx4 (x y:It) (w:World):(binOp .neq 49 (.agg #[.int .i64 x.s,.int .i64 x.k,.int .u64 (x.t:Int),.int .u64 (x.v:Int),.int .i64 x.x]) (.agg #[.int .i64 y.s,.int .i64 y.k,.int .u64 (y.t:Int),.int .u64 (y.v:Int),.int .i64 y.x])).run prog w=.ok (.bool (!decide (x=y))) w:=by
 have H:=underlying3;have a3:=Tryz.isAgg3;have I:=Tryz.sizeOf3;have J:=underlying27;have O:=Tryz.isAgg27;have Q:=Tryz.sizeOf27;have U:=underlying2;have Z:=Tryz.isAgg2;have z5:=Tryz.sizeOf2;have C:prog.underlying 49=some (.struct (prog.fieldsOf 49)):=by kernel_rfl
 have E:prog.stoodInHeld 49=false:=by kernel_rfl
 rw[run_neq_struct,show (10000:Nat)=9999+1 from rfl,run_equalIn_agg w 9999 49 _ _ C E];simp only[Program.fieldsOf,underlying49];go_simp;have e:decide (x=y)=(decide (x.s=y.s) &&(decide (x.k=y.k) &&(decide (x.t=y.t) &&(decide (x.v=y.v) &&decide (x.x=y.x))))):=by
  rw[<-bk_,<-bk_,<-bk_,<-bk_];exact decide_eq_decide.2 ⟨fun h=>by subst h;simp,fun⟨h1,h2,h3,h4,h5⟩=>It.ext h1 h2 h3 h4 h5⟩
 rw[e]
 by_cases h1:x.s=y.s<;>by_cases h2:x.k=y.k<;>by_cases h3:x.t=y.t<;>by_cases h4:x.v=y.v<;>by_cases h5:x.x=y.x<;>simp[h1,h2,h3,h4,h5] <;>omega
theorem dx6 {x y:It} (h:x≠y) {α:Type} (A B:α):(if x.s=y.s then if x.k=y.k then if (x.t:Int)=(y.t:Int) then if (x.v:Int)=(y.v:Int) then if x.x=y.x then A else B else B else B else B else B)=B:=by
 by_cases h1:x.s=y.s
 ·by_cases h2:x.k=y.k
  ·by_cases h3:(x.t:Int)=(y.t:Int)
   ·by_cases h4:(x.v:Int)=(y.v:Int)
    ·by_cases h5:x.x=y.x
     ·exact absurd (It.ext h1 h2 o_ o_ h5) h
     ·rw[if_pos h1,if_pos h2,if_pos h3,if_pos h4,if_neg h5]
    ·rw[if_pos h1,if_pos h2,if_pos h3,if_neg h4]
   ·rw[if_pos h1,if_pos h2,if_neg h3]
  ·rw[if_pos h1,if_neg h2]
 ·rw[if_neg h1]
theorem kz9 {P S a oi v} (h:Hv P S a oi v:=by intro w C;(obtain⟨⟨c0,c1,c2,c3,c4⟩,d0,d1,d2,d3,d4⟩:=KC.out w C);go_simp;try (with_reducible rfl)):Hv P S a oi v:=h
theorem kz10 {P S a oi v} (h:Hv P S a oi v:=by intro w C;(obtain⟨⟨c0,c1,c2,c3,c4⟩,d0,d1,d2,d3,d4⟩:=KC.out w C;have d9:=b2.out);go_simp;try (with_reducible rfl)):Hv P S a oi v:=h
theorem pz2 (A:Option Addr) (n c:Nat) (a:List It) (B:Option Addr) (m d:Nat) (b:List It) (w:World) (hn:n<=1000000) (hm:m<=1000000) (ra:Row w.heap.size w A n 5 (itc a)) (rb:Row w.heap.size w B m 5 (itc b)):
  Calls prog 38 #[.slice A n c,.slice B m d] w fun e w'=>e=.returned (.bool (decide (a=b)))/\Below w.heap.size w w':=by
 have b3:=ra.qj;have b5:=rb.qj;obtain⟨r,hr⟩:=n_ (decide (a=b));rw[<-hr]
 by_cases a2:n=m
 ·subst a2
  have HR:=H_ hr;clear hr;go_enter func38,ntmps38;go_wp2
  go_loopw [5] (fun i wr=>∃k:Nat,k<=n/\i=.int .i64 (k:Int)/\Hid (a.take k=b.take k)/\Below w.heap.size w wr) (fun i _=>n - (intOf i).toNat)
  case atStart=>exact⟨0,w_ _,rfl,H_ rfl,Below.refl _ _⟩
  case round=>
   obtain⟨k,hk,rfl,HE,E⟩:=hrel
   by_cases a4:k < n
   ·obtain⟨p,hl,rfl,b6,hd⟩:=(ra.below E).it a4
    obtain⟨J,b7,rfl,a5,a6⟩:=(rb.below E).it a4;have a7:a.take (k+1)=a.take k++[a[k]]:=r_ hl;have a8:b.take (k+1)=b.take k++[b[k]]:=r_ b7;have H:a[k]≠b[k]->a≠b:=fun h e=>by subst e;exact h rfl
    generalize a[k]=x at *;generalize b[k]=y at *;have Q:=mx4 x y;obtain⟨q,hq⟩:=n_ (decide (x=y));rw[<-hq]at Q;have a9:∀w',Below wr.heap.size wr w'->(w'.cell? (p.add (k *5))=some (.int .i64 x.s)/\w'.cell? ⟨(p.add (k *5)).block,(p.add (k *5)).off+1,none⟩=some (.int .i64 x.k)/\w'.cell? ⟨(p.add (k *5)).block,(p.add (k *5)).off+2,none⟩=some (.int .u64 (x.t:Int))/\w'.cell? ⟨(p.add (k *5)).block,(p.add (k *5)).off+3,none⟩=some (.int .u64 (x.v:Int))/\w'.cell? ⟨(p.add (k *5)).block,(p.add (k *5)).off+4,none⟩=some (.int .i64 x.x))/\w'.cell? (J.add (k *5))=some (.int .i64 y.s)/\w'.cell? ⟨(J.add (k *5)).block,(J.add (k *5)).off+1,none⟩=some (.int .i64 y.k)/\w'.cell? ⟨(J.add (k *5)).block,(J.add (k *5)).off+2,none⟩=some (.int .u64 (y.t:Int))/\w'.cell? ⟨(J.add (k *5)).block,(J.add (k *5)).off+3,none⟩=some (.int .u64 (y.v:Int))/\w'.cell? ⟨(J.add (k *5)).block,(J.add (k *5)).off+4,none⟩=some (.int .i64 y.x):=fun w' hb=>by
     have h1:=hd.below (B:=wr.heap.size) (w':=w') (N_ b6 E.size) hb;have h2:=a6.below (B:=wr.heap.size) (w':=w') (N_ a5 E.size) hb;exact⟨⟨h1.c0,h1.c1,h1.c2,h1.c3,h1.c4⟩,h2.c0,h2.c1,h2.c2,h2.c3,h2.c4⟩
    have KC:=H_ a9;have HQ:=H_ hq;have b9:=H_ H;have HT:=H_ (c_ a7 a8);have a':=H_ Q;have e0:IntKind.i64.wrap (k:Int)=(k:Int):=D_ _ o_;have e2:(k:Int) < (n:Int):=o_
    clear a9 hq H a7 a8 hd a6 Q
    by_cases I:x=y
    ·have U:=H_ (show a.take (k+1)=b.take (k+1) by rw[HT.out.1,HT.out.2,HE.out,I])
     subst I;clear a' HQ;go_wp2_with fail;refine w_h wr fun C=>?_;refine w_v 0 C ?_ (k:=kz9);go_simp;refine w_v 1 C ?_ (k:=kz9);go_simp;refine w_v 2 C ?_ (k:=kz9);go_simp;refine w_v 3 C ?_ (k:=kz9);go_simp;refine w_v 4 C ?_ (k:=kz9);go_simp;refine w_v 5 C ?_ (k:=kz9);go_simp;refine w_v 6 C ?_ (k:=kz9);go_simp;refine w_v 7 C ?_ (k:=kz9);go_simp;refine w_v 8 C ?_ (k:=kz9);go_simp;refine w_d ?_;have Z:=E.trans (C.mono E.size);clear C KC;go_wp2;go_roundw
     case rel=>exact⟨k+1,o_,by go_num,U.out,Z⟩
     case measure=>simp[intOf];omega
    ·have b0:r=false:=by
      rw[HR.out];simpa using b9.out I
     have U:=H_ b0;have b2:=H_ (fun(α:Type) (A B:α)=>dx6 I A B);clear b0 I a' HQ;go_wp2_with fail;refine w_h wr fun C=>?_;refine w_v 0 C ?_ (k:=kz10);go_simp;refine w_v 1 C ?_ (k:=kz10);go_simp;refine w_v 2 C ?_ (k:=kz10);go_simp;refine w_v 3 C ?_ (k:=kz10);go_simp;refine w_v 4 C ?_ (k:=kz10);go_simp;refine w_v 5 C ?_ (k:=kz10);go_simp;refine w_v 6 C ?_ (k:=kz10);go_simp;refine w_v 7 C ?_ (k:=kz10);go_simp;refine w_v 8 C ?_ (k:=kz10);go_simp;refine w_d ?_;have Z:=E.trans (C.mono E.size);clear C KC;go_wp2;go_ret;exact⟨ik U.out.symm,Z⟩
   ·have O:r=true:=by
     have:=HE.out;rw[g_ o_,g_ o_]at this;rw[HR.out,this];simp
    have U:=H_ O;clear O;go_wp2;go_ret;exact⟨ik U.out.symm,E⟩
 ·have H:r=false:=by
   rw[hr];have:a≠b:=fun e=>a2 (by rw[<-b3,<-b5,e]);simpa using this
  have e1:((n:Int)==(m:Int))=false:=by rw[beq_eq_false_iff_ne];omega
  have U:=H_ H;clear H hr;go_enter func38,ntmps38;go_wp2;go_ret;exact⟨ik U.out.symm,Below.refl _ _⟩
def dw1 (w:World) (R:List It) (e:Ending) (w':World):Prop:=∃A' k c',e=.returned (.slice A' k c')/\k=R.length/\Its w.heap.size w' A' k c' R/\Below w.heap.size w w'
theorem zy3 (A:Option Addr) (n c:Nat) (l:List It) (v:Nat) (w:World) (hn:n<=1000000) (hr:Row w.heap.size w A n 5 (itc l)):
  Calls prog 20 #[.slice A n c,.int .u64 (v:Int)] w (dw1 w (yj l v)):=by
 have d8:=hr.qj;obtain⟨i0,a2,a4,a5,a6⟩:=info_parts qw;obtain⟨P,hP⟩:∃P:It->Bool,P=fun y=>!(y.k==1&&decide (y.v<=v)):=⟨_,rfl⟩;have HP:=H_ (fun y=>congrFun hP y);unfold yj;rw[<-hP];clear hP;go_enter func20,ntmps20;go_wp2
 go_loopw [5,6] (fun s i wr=>∃(k q:Nat) (A2:Option Addr) (c2:Nat),k<=n/\s=.slice A2 q c2/\i=.int .i64 (k:Int)/\Hid (q=((l.take k).filter P).length/\wr.ownsRow w.heap.size 49 5 (.slice A2 q c2) q (itc ((l.take k).filter P)))/\Below w.heap.size w wr) (fun _ i _=>n - (intOf i).toNat)
 case atStart=>exact⟨0,0,none,0,w_ _,rfl,rfl,H_ ⟨rfl,E_ _ _ _ _⟩,Below.refl _ _⟩
 case round=>
  obtain⟨k,q,A2,c2,hk,rfl,rfl,E,I⟩:=hrel
  by_cases d0:k < n
  ·obtain⟨p,hl,rfl,e0,c0,c1,d1,c3,c4⟩:=(hr.below I).it d0
   have Z:=fw1 (P:=P) hl;have e4:q<=1000000:=by
    have h1:=E.out.1;have h2:=L_ P (l.take k);rw[v_]at h2;omega
   generalize l[k]=x at *;obtain⟨b,hb⟩:=n_ (P x);rw[<-hb]at Z;have J:=hb.trans (HP.out x);have C:=H_ Z;have e5:IntKind.i64.wrap (k:Int)=(k:Int):=D_ _ o_;have a7:BoxO (wr.alloc (.cells #[.int .i64 x.s,.int .i64 x.k,.int .u64 (x.t:Int),.int .u64 (x.v:Int),.int .i64 x.x] 49)) 49 wr.heap.size x.cells:=BoxO.new wr #[.int .i64 x.s,.int .i64 x.k,.int .u64 (x.t:Int),.int .u64 (x.v:Int),.int .i64 x.x] 49;have a0:=b_ wr (.cells #[.int .i64 x.s,.int .i64 x.k,.int .u64 (x.t:Int),.int .u64 (x.v:Int),.int .i64 x.x] 49);have a8:=own_below E.out.2 a0;have a9:=az I a0;have HR:=H_ (az1 a7);have HO:=H_ a8;have HB:=H_ a9;clear Z hb a7 a0 a8 a9;have key:(b=false/\x.k=1/\¬(v:Int) < (x.v:Int))\/(b=true/\x.k=1/\(v:Int) < (x.v:Int))\/(b=true/\(x.k==1)=false/\(x.k !=1)=true):=by
    by_cases h1:x.k=1
    ·by_cases h2:(v:Int) < (x.v:Int)
     ·exact .inr (.inl ⟨by rw[J];simp[h1];omega,h1,h2⟩)
     ·exact .inl ⟨by rw[J];simp[h1];omega,h1,h2⟩
    ·exact .inr (.inr ⟨by rw[J];simp[h1],by simpa using h1,by simpa using h1⟩)
   clear J
   rcases key with ⟨rfl,h1,h2⟩|key
   ·have H3:=H_ (c_ (show q=((l.take (k+1)).filter P).length by rw[C.out];simpa using E.out.1) (show wr.ownsRow w.heap.size 49 5 (.slice A2 q c2) q (itc ((l.take (k+1)).filter P)) by rw[C.out];simpa using E.out.2))
    have e1:(x.k==1)=true:=by simp[h1]
    clear C E HR HO HB;go_wp2;go_roundw
    case rel=>exact⟨k+1,q,A2,c2,o_,rfl,by go_num,H3.out,I⟩
    case measure=>simp[intOf];omega
   ·rcases key with ⟨rfl,g1,g2⟩|⟨rfl,g1,g3⟩
    ·obtain⟨xs,xk,xt,xv,xx⟩:=x
     simp only at g1 g2 c0 c1 d1 c3 c4;subst g1;have HX:=H_ (show itc ((l.take k).filter P)++(It.cells ⟨xs,1,xt,xv,xx⟩)=itc ((l.take (k+1)).filter P) by rw[C.out,if_pos rfl,lq];simp[itc]);have H:=H_ (show q+1=((l.take (k+1)).filter P).length by rw[C.out,if_pos rfl,d_,<-E.out.1];rfl);clear C E;go_wp2_with (at_builtin;refine iy ?_);refine bz (iq rfl (.tmp 28) (.tmp 33) _ rfl w.heap.size 49 i0 _ 5 40 underlying26 a2 a4 a5 a6 rfl o_ w HB.out HB.out.size _ q (itc ((l.take k).filter P)) rfl HO.out (wr.alloc (.cells #[.int .i64 xs,.int .i64 1,.int .u64 (xt:Int),.int .u64 (xv:Int),.int .i64 xx] 49)).heap.size _ 1 1 (It.cells ⟨xs,1,xt,xv,xx⟩) rfl HR.out (fun v hv=>uj [⟨xs,1,xt,xv,xx⟩] v (by simpa [itc] using hv)) (q+1) _ rfl HX.out (by unfold maxLen;omega) o_ ?_);intro A3 c3 w5 h1 h2 h3 h4 h5;have H5:=H_ (c_ H.out h1);clear h1 h3 H HX HR HO HB;go_wp2;go_roundw
     case rel=>exact⟨k+1,q+1,A3,c3,o_,rfl,by go_num,H5.out,h2⟩
     case measure=>simp[intOf];omega
    ·skip
     have HX:=H_ (show itc ((l.take k).filter P)++x.cells=itc ((l.take (k+1)).filter P) by rw[C.out,if_pos rfl,lq];simp[itc]);have H:=H_ (show q+1=((l.take (k+1)).filter P).length by rw[C.out,if_pos rfl,d_,<-E.out.1];rfl);clear C E;go_wp2_with (at_builtin;refine iy ?_);refine bz (iq rfl (.tmp 28) (.tmp 33) _ rfl w.heap.size 49 i0 _ 5 40 underlying26 a2 a4 a5 a6 rfl o_ w HB.out HB.out.size _ q (itc ((l.take k).filter P)) rfl HO.out (wr.alloc (.cells #[.int .i64 x.s,.int .i64 x.k,.int .u64 (x.t:Int),.int .u64 (x.v:Int),.int .i64 x.x] 49)).heap.size _ 1 1 x.cells rfl HR.out (fun v hv=>uj [x] v (by simpa [itc] using hv)) (q+1) _ rfl HX.out (by unfold maxLen;omega) o_ ?_);intro A3 c3 w5 h1 h2 h3 h4 h5;have H5:=H_ (c_ H.out h1);clear h1 h3 H HX HR HO HB;go_wp2;go_roundw
     case rel=>exact⟨k+1,q+1,A3,c3,o_,rfl,by go_num,H5.out,h2⟩
     case measure=>simp[intOf];omega
  ·have O:l.take k=l:=g_ o_
   have hq:=E.out;rw[O]at hq;obtain⟨A3,c3,hv,b5,b6,Q⟩:=gz hq.2;injection hv with e1 e2 e3;subst e1 e3;have U:Its w.heap.size wr A2 q c2 (l.filter P):=⟨Row.own hq.2,b5,b6,fun p hp=>(Q p hp).1⟩;have b7:=H_ (c_ hq.1 U);clear U hq O Q b5 b6 E;go_wp2;go_ret;exact⟨A2,q,c2,rfl,b7.out.1,b7.out.2,I⟩
section
open Go.ChangeShapes Go.WideShapes Go.Deep Go.Joins
section
variable {H:Type} {enc:TypeId×Value->H} {P:Program} {w:World} {base:Nat} {spare:Nat->Bool} {held:Bool}
theorem zx1 {t e:TypeId} {fs:Array Field} {J:Nat} {cs:List Value} {x:DataW H×List MemPlace} (ht:P.underlying t=some (.slice e)) (he:P.underlying e=some (.struct fs))
  (O:oneCellFields P fs=true) (hC:P.cellsOf e=fs.size) (h:DataW.trod enc P w base spare held J t cs=some x):
  cs=[.slice none 0 0]\/
  ∃(a:Addr) (len cap m:Nat),cs=[.slice (some a) len cap]/\len<=cap/\cap<=maxLen/\m=(if spare a.block then cap else len)/\
   ∀i,i < m->∃(Q:List (DataW H×List MemPlace)) (n:Nat),
    ∀(j:Nat) (f:Field),fs[j]?=some f->∃(v:Value) (y:DataW H×List MemPlace),w.cell? (a.add (i *fs.size+j))=some v/\Q[j]?=some y/\DataW.trod enc P w base spare held n f.type [v]=some y:=by
 rcases open_slice ht h with ⟨h0,_⟩|⟨a,len,cap,m,n,D,Pl,Z,hb,hl,hm,a0,hx,hi⟩
 ·exact .inl h0
 ·refine .inr ⟨a,len,cap,m,Z,hl,hm,a0,fun i a1=>?_⟩
  obtain⟨C,hc,a2⟩:=hi i a1;rw[hC]at hc;obtain⟨Q,n',b3,hy,a7,b5,hf⟩:=DataW.trod_struct he a2;obtain⟨_,b7,a4⟩:=World.cells?_some hc;refine⟨Q,n',fun j f hj=>?_⟩;obtain⟨ho,hk⟩:=hone_of O j f hj;have a5:j < fs.size:=(A_.1 hj).1;have E:=a4 j a5;have hv:C[j]?=some (C[j]'o_):=h_ o_;have h1:=hf j f hj;rw[ho,hk]at h1;have I:(C.drop j).take 1=[C[j]'o_]:=by
   rw[bn_ o_];rfl
  rw[I]at h1;have U:Q[j]?=some (Q[j]'o_):=h_ o_;refine⟨_,_,?_,U,h1.trans U⟩;rw[<-Go.Deep.add_add,E,hv]
end
theorem ek6 {n:Int} (h:(Lit.int .i64 n).wf=true):-9223372036854775808<=n/\n<=9223372036854775807:=by
 simp only[Lit.wf,IntKind.min,IntKind.max,IntKind.signed,IntKind.bits,G_,decide_eq_true_eq,if_true]at h;omega
theorem nv3 {n:Int} (h:(Lit.int .u64 n).wf=true):∃u:Nat,n=(u:Int)/\u < 18446744073709551616:=by
 simp only[Lit.wf,IntKind.min,IntKind.max,IntKind.signed,IntKind.bits,G_,decide_eq_true_eq,af_,if_false]at h;exact⟨n.toNat,o_,o_⟩
end
theorem keep_any (K:Nat) (hF:∀args w,(callFunc K args).run prog w=.ok (.enter K args) w) (O:Array Value) (P:It->Bool) (A:Option Addr) (n c:Nat) (l:List It) (w:World) (hn:n<=1000000) (hr:Row w.heap.size w A n 5 (itc l))
  (hK:∀x w1,Below w.heap.size w w1->Calls prog K (#[x.val] ++O) w1 fun e w'=>e=.returned (.bool (P x))/\Below w1.heap.size w1 w'):
  Calls prog 35 #[.slice A n c,.func (.func K) #[] O] w (dw1 w (l.filter P)):=by
 have f5:=hr.qj;obtain⟨i0,d2,d3,d4,d5⟩:=info_parts qw;have HF:=H_ hF;have HK:=H_ hK;clear hF hK;go_enter func35,ntmps35;go_wp2
 go_loopw [5,10] (fun v i wr=>∃(k q:Nat) (A2:Option Addr) (c2:Nat),k<=n/\v=.slice A2 q c2/\i=.int .i64 (k:Int)/\Hid (q=((l.take k).filter P).length/\wr.ownsRow w.heap.size 49 5 (.slice A2 q c2) q (itc ((l.take k).filter P)))/\Below w.heap.size w wr) (fun _ i _=>n - (intOf i).toNat)
 case atStart=>exact⟨0,0,none,0,w_ _,rfl,rfl,H_ ⟨rfl,E_ _ _ _ _⟩,Below.refl _ _⟩
 case round=>
  obtain⟨k,q,A2,c2,hk,rfl,rfl,Q,H⟩:=hrel
  by_cases d6:k < n
  ·obtain⟨p,hl,rfl,f',c0,c1,a9,c3,c4⟩:=(hr.below H).it d6
   have a1:=fw1 (P:=P) hl;have g0:q<=1000000:=by
    have h1:=Q.out.1;have h2:=L_ P (l.take k);rw[v_]at h2;omega
   generalize l[k]=x at *;have a':=H.alloc H.size (.cells #[.int .i64 x.s,.int .i64 x.k,.int .u64 (x.t:Int),.int .u64 (x.v:Int),.int .i64 x.x] 49);have a2:=b_ wr (.cells #[.int .i64 x.s,.int .i64 x.k,.int .u64 (x.t:Int),.int .u64 (x.v:Int),.int .i64 x.x] 49);have a4:BoxO (wr.alloc (.cells #[.int .i64 x.s,.int .i64 x.k,.int .u64 (x.t:Int),.int .u64 (x.v:Int),.int .i64 x.x] 49)) 49 wr.heap.size x.cells:=BoxO.new wr #[.int .i64 x.s,.int .i64 x.k,.int .u64 (x.t:Int),.int .u64 (x.v:Int),.int .i64 x.x] 49;have I:=HK.out x _ a';unfold It.val at I;obtain⟨b,hb⟩:=n_ (P x);rw[<-hb]at I a1;have a5:=H_ I;have E:=H_ a1;clear I a1 hb;go_wp2_with fail;rw[HF.out,Oper.upon_enter];refine a5.out.mono ?_;rintro e w2 ⟨rfl,a6⟩;have b5:=az a' (a6);have J:=own_below (own_below Q.out.2 a2) a6;have C:=a4.below a6;generalize wr.heap.size=g at *
   cases b with
   |false=>
    have H3:=H_ (c_ (show q=((l.take (k+1)).filter P).length by rw[E.out];simpa using Q.out.1) (show w2.ownsRow w.heap.size 49 5 (.slice A2 q c2) q (itc ((l.take (k+1)).filter P)) by rw[E.out];simpa using J));clear a5 E Q J a4 C a2 c0 c1 a9 c3 c4;go_wp2;go_roundw
    case rel=>exact⟨k+1,q,A2,c2,o_,rfl,by go_num,H3.out,b5⟩
    case measure=>simp[intOf];omega
   |true=>
    have b0:=C.cell 0;have b1:=C.cell 1;have b2:=C.cell 2;have b3:=C.cell 3;have b4:=C.cell 4;simp only[It.cells,gE0,gE1]at b0 b1 b2 b3 b4;have b6:BoxO (w2.alloc (.cells #[.int .i64 x.s,.int .i64 x.k,.int .u64 (x.t:Int),.int .u64 (x.v:Int),.int .i64 x.x] 49)) 49 w2.heap.size x.cells:=BoxO.new w2 #[.int .i64 x.s,.int .i64 x.k,.int .u64 (x.t:Int),.int .u64 (x.v:Int),.int .i64 x.x] 49;have a7:=b_ w2 (.cells #[.int .i64 x.s,.int .i64 x.k,.int .u64 (x.t:Int),.int .u64 (x.v:Int),.int .i64 x.x] 49);have b7:=own_below J a7;have b8:=az b5 a7;have hrow:=az1 b6;have HX:=H_ (show itc ((l.take k).filter P)++x.cells=itc ((l.take (k+1)).filter P) by rw[E.out,if_pos rfl,lq];simp[itc]);have b9:=H_ (show q+1=((l.take (k+1)).filter P).length by rw[E.out,if_pos rfl,d_,<-Q.out.1];rfl);have HR:=H_ hrow;have HO:=H_ b7;have HB:=H_ b8;clear a5 E Q J b7 a4 C a2 c0 c1 a9 c3 c4 hrow b6 a7 b8;go_wp2_with (at_builtin;refine iy ?_);refine bz (iq rfl (.tmp 17) (.tmp 19) _ rfl w.heap.size 49 i0 _ 5 40 underlying26 d2 d3 d4 d5 rfl o_ w HB.out HB.out.size _ q (itc ((l.take k).filter P)) rfl HO.out (w2.alloc (.cells #[.int .i64 x.s,.int .i64 x.k,.int .u64 (x.t:Int),.int .u64 (x.v:Int),.int .i64 x.x] 49)).heap.size _ 1 1 x.cells rfl HR.out (fun v hv=>uj [x] v (by simpa [itc] using hv)) (q+1) _ rfl HX.out (by unfold maxLen;omega) o_ ?_);intro A3 c3 w5 h1 h2 h3 h4 h5;have H5:=H_ (c_ b9.out h1);clear h1 h3 b9 HX HR HO HB b0 b1 b2 b3 b4;go_wp2;go_roundw
    case rel=>exact⟨k+1,q+1,A3,c3,o_,rfl,by go_num,H5.out,h2⟩
    case measure=>simp[intOf];omega
  ·have U:l.take k=l:=g_ o_
   have hq:=Q.out;rw[U]at hq;obtain⟨A3,c3,hv,c9,c',Z⟩:=gz hq.2;injection hv with e1 e2 e3;subst e1 e3;have a0:Its w.heap.size wr A2 q c2 (l.filter P):=⟨Row.own hq.2,c9,c',fun p hp=>(Z p hp).1⟩;have d0:=H_ (c_ hq.1 a0);clear a0 hq U Z c9 c' Q;go_wp2;go_ret;exact⟨A2,q,c2,rfl,d0.out.1,d0.out.2,H⟩
namespace Mg
def hd (ls:List (List It)) (a:Option Nat):List It->Bool
 |[]=>false
 |x::_=>match a with
  |none=>true
  |some j=>match ls.getD j [] with
   |[]=>false
   |y::_=>x.less y
def sel (ls:List (List It)):Nat->Option Nat
 |0=>none
 |k+1=>if hd ls (sel ls k) (ls.getD k [])=true then some k else sel ls k
def at_:Option Nat->Int
 |none=>-1
 |some j=>(j:Int)
def put (out:List It) (x:It):List It:=match out.getLast? with
 |none=>[x]
 |some y=>if y.same x=true then if x.wins y=true then out.dropLast++[x] else out else out++[x]
def run:Nat->List (List It)->List It->List It
 |0,_,out=>out
 |f+1,ls,out=>match sel ls ls.length with
  |none=>out
  |some j=>match ls.getD j [] with
   |[]=>out
   |x::r=>run f (ls.set j r) (put out x)
def tot (ls:List (List It)):Nat:=(ls.map List.length).sum
def rows (ls:List (List It)):List It:=run (tot ls) ls []
theorem kq2 {ls:List (List It)}:∀{k j:Nat},sel ls k=some j->j < k/\∃x r,ls.getD j []=x::r
 |k+1,j,h=>by
  unfold sel at h;split at h
  ·next C=>
   injection h with h;subst h;refine⟨o_,?_⟩
   cases e:ls.getD k [] with
   |nil=>rw[e]at C;simp[hd]at C
   |cons x r=>exact⟨x,r,rfl⟩
  ·obtain⟨h1,h2⟩:=kq2 h
   exact⟨o_,h2⟩
theorem rk3 {ls:List (List It)}:∀{k:Nat},sel ls k=none->∀i,i < k->ls.getD i []=[]
 |k+1,h,i,hi=>by
  unfold sel at h;split at h
  ·cases h
  ·next C=>
   rcases ah_ i k with h1|h1
   ·exact rk3 h i h1
   ·obtain rfl:i=k:=o_
    cases e:ls.getD i [] with
    |nil=>rfl
    |cons x r=>rw[h,e]at C;simp[hd]at C
theorem nx3:∀{ls:List (List It)} {j:Nat} {x:It} {r:List It},j < ls.length->ls.getD j []=x::r->tot (ls.set j r)+1=tot ls
 |l::ls,0,x,r,_,h=>by
  simp only[bN_]at h;subst h;simp[tot];omega
 |l::ls,j+1,x,r,hj,h=>by
  have:=nx3 (ls:=ls) (j:=j) (x:=x) (r:=r) (by simpa using hj) (by simpa using h);simp only[tot,aD_,Z_,aI_]at *;omega
theorem jq (out:List It) (x:It):(put out x).length<=out.length+1:=by
 unfold put;split
 ·simp
 ·split
  ·split
   ·simp only[d_,b9_,q_,V_];omega
   ·omega
  ·simp
theorem cy5 {ls:List (List It)} {out:List It} (h:sel ls ls.length=none) (f:Nat):run f ls out=out:=by
 cases f with
 |zero=>rfl
 |succ f=>simp only[run,h]
theorem jz5 {ls:List (List It)} {out:List It} {j:Nat} {x:It} {r:List It} (h:sel ls ls.length=some j) (C:ls.getD j []=x::r):run (tot ls) ls out=run (tot (ls.set j r)) (ls.set j r) (put out x):=by
 have hj:=(kq2 h).1;have E:=nx3 hj C;rw[<-E];simp only[run,h,C]
end Mg
theorem ry3 (x y:It) (w:World):(Op.equal 49 (.agg #[.int .i64 x.s,.int .i64 x.k,.int .u64 (x.t:Int),.int .u64 (x.v:Int),.int .i64 x.x]) (.agg #[.int .i64 y.s,.int .i64 y.k,.int .u64 (y.t:Int),.int .u64 (y.v:Int),.int .i64 y.x])).run prog w=.ok (decide (x=y)) w:=by
 have I:=underlying3;have a3:=Tryz.isAgg3;have J:=Tryz.sizeOf3;have O:=underlying27;have Q:=Tryz.isAgg27;have U:=Tryz.sizeOf27;have Z:=underlying2;have a5:=Tryz.isAgg2;have z5:=Tryz.sizeOf2;have C:prog.underlying 49=some (.struct (prog.fieldsOf 49)):=by kernel_rfl
 have E:prog.stoodInHeld 49=false:=by kernel_rfl
 have H:(Op.equal 49 (.agg #[.int .i64 x.s,.int .i64 x.k,.int .u64 (x.t:Int),.int .u64 (x.v:Int),.int .i64 x.x]) (.agg #[.int .i64 y.s,.int .i64 y.k,.int .u64 (y.t:Int),.int .u64 (y.v:Int),.int .i64 y.x])).run prog w=(Op.equalIn 10000 49 (.agg #[.int .i64 x.s,.int .i64 x.k,.int .u64 (x.t:Int),.int .u64 (x.v:Int),.int .i64 x.x]) (.agg #[.int .i64 y.s,.int .i64 y.k,.int .u64 (y.t:Int),.int .u64 (y.v:Int),.int .i64 y.x])).run prog w:=by simp only[Op.equal,Op.maxDepth]
 rw[H,show (10000:Nat)=9999+1 from rfl,run_equalIn_agg w 9999 49 _ _ C E];simp only[Program.fieldsOf,underlying49];go_simp;have e:decide (x=y)=(decide (x.s=y.s) &&(decide (x.k=y.k) &&(decide (x.t=y.t) &&(decide (x.v=y.v) &&decide (x.x=y.x))))):=by
  rw[<-bk_,<-bk_,<-bk_,<-bk_];exact decide_eq_decide.2 ⟨fun h=>by subst h;simp,fun⟨h1,h2,h3,h4,h5⟩=>It.ext h1 h2 h3 h4 h5⟩
 rw[e]
 by_cases h1:x.s=y.s<;>by_cases h2:x.k=y.k<;>by_cases h3:x.t=y.t<;>by_cases h4:x.v=y.v<;>by_cases h5:x.x=y.x<;>simp[h1,h2,h3,h4,h5] <;>omega
theorem sv1 (C:Bool) (x:It) (w:World):(Instr.checkKey C 10000 49 (.agg #[.int .i64 x.s,.int .i64 x.k,.int .u64 (x.t:Int),.int .u64 (x.v:Int),.int .i64 x.x])).run prog w=.ok () w:=by
 kernel_rfl
theorem iz5 (x:It) (w:World):(Instr.keyThatStays (.agg #[.int .i64 x.s,.int .i64 x.k,.int .u64 (x.t:Int),.int .u64 (x.v:Int),.int .i64 x.x]) (.agg #[.int .i64 x.s,.int .i64 x.k,.int .u64 (x.t:Int),.int .u64 (x.v:Int),.int .i64 x.x])).run prog w=.ok (.agg #[.int .i64 x.s,.int .i64 x.k,.int .u64 (x.t:Int),.int .u64 (x.v:Int),.int .i64 x.x]) w:=by
 simp[Instr.keyThatStays,Instr.sameBits]
theorem val_inj {x y:It} (h:x.val=y.val):x=y:=by
 unfold It.val at h;injection h with h;simp only[Array.mk.injEq,List.cons.injEq,Value.int.injEq,true_and,and_true]at h;obtain⟨h1,h2,h3,h4,h5⟩:=h;exact It.ext h1 h2 o_ o_ h5
theorem vw4 (x:It) (w:World):∀(es:List MapEntry) (i:Nat),(∀e∈es,∃y:It,e.key=y.val)->
  ((Instr.findAsking 49 x.val es i).run prog w=.ok none w/\∀e∈es,e.key≠x.val)\/∃j e,(Instr.findAsking 49 x.val es i).run prog w=.ok (some (i+j,e.val)) w/\es[j]?=some e/\e.key=x.val
 |[],i,_=>.inl ⟨by simp[Instr.findAsking],by simp⟩
 |a::es,i,h=>by
  obtain⟨y,E⟩:=h a i_;have H:=ry3 x y w
  by_cases C:x=y
  ·subst C
   refine .inr ⟨0,a,?_,rfl,E⟩;unfold It.val at E ⊢;simp[Instr.findAsking,E,H]
  ·rcases vw4 x w es (i+1) (fun e H=>h e (e_ _ H)) with ⟨h1,h2⟩|⟨j,e,h1,h2,h3⟩
   ·refine .inl ⟨?_,fun e I=>?_⟩
    ·unfold It.val at E h1 ⊢
     simp[Instr.findAsking,E,H,C,h1]
    ·rcases f_.1 I with rfl|I
     ·intro J
      rw[E]at J;exact C (val_inj J).symm
     ·exact h2 e I
   ·refine .inr ⟨j+1,e,?_,by simpa using h2,h3⟩
    unfold It.val at E h1 ⊢;simp[Instr.findAsking,E,H,C,h1];omega
theorem wx1 (x:It) (w:World) (es:List MapEntry) (h:∀e∈es,∃y:It,e.key=y.val):
  ((Instr.findKey 49 x.val es).run prog w=.ok none w/\∀e∈es,e.key≠x.val)\/∃j e,(Instr.findKey 49 x.val es).run prog w=.ok (some (j,e.val)) w/\es[j]?=some e/\e.key=x.val:=by
 have C:prog.underlying 49=some (.struct (prog.fieldsOf 49)):=by kernel_rfl
 cases es with
 |nil=>
  refine .inl ⟨?_,by simp⟩;simp[Instr.findKey,run_underlying C,Instr.findNow]
 |cons a es=>
  obtain⟨y,E⟩:=h a i_;have H:Instr.findNow (.struct (prog.fieldsOf 49)) x.val (a::es) 0=none:=by
   unfold Instr.findNow;rw[E];rfl
  have I:(Instr.findKey 49 x.val (a::es)).run prog w=(Instr.findAsking 49 x.val (a::es)).run prog w:=by
   simp[Instr.findKey,run_underlying C,H]
  rw[I]
  rcases vw4 x w (a::es) 0 h with h1|⟨j,e,h1,h2,h3⟩
  ·exact .inl h1
  ·exact .inr ⟨j,e,by simpa using h1,h2,h3⟩
def MpI (es:List MapEntry) (clock:Nat) (M:List It) (B:Nat):Prop:=
 (∀e∈es,(∃y∈M,e.key=y.val)/\(∃c:Nat,1<=c/\c<=B/\e.val=.int .i64 (c:Int))/\e.born < clock)/\∀y∈M,∃e∈es,e.key=y.val
def MpAt (w:World) (b:Nat) (M:List It) (B:Nat):Prop:=∃es clock,w.heap[b]?=some (.map es clock)/\MpI es.toList clock M B
def ry4 (w:World) (b:Nat) (M:List It) (x:It) (st B:Nat):Prop:=∃es clock,w.heap[b]?=some (.map es clock)/\
 (∀e∈es.toList,(∃y∈M++[x],e.key=y.val)/\e.born < clock)/\(∀y∈M++[x],∃e∈es.toList,e.key=y.val)/\(∃i:Nat,es.toList.findIdx? (fun e=>((e.born:Nat):Int)==((st:Nat):Int))=some i/\
  ∀(j:Nat) e,es.toList[j]?=some e->(∃c:Nat,c<=B/\e.val=.int .i64 (c:Int)/\(j≠i->1<=c)))
theorem MpAt.look {w:World} {b:Nat} {M:List It} {B:Nat} (h:MpAt w b M B) (x:It):∃c:Nat,c<=B/\(decide (0 < c)=decide (x∈M))/\(Instr.lookup 165 (.map (some b)) x.val false).run prog w=.ok (.int .i64 (c:Int)) w:=by
 obtain⟨es,clock,O,h1,h2⟩:=h;have Q:prog.underlying 165=some (.map 49 3):=by kernel_rfl
 have U:(zeroValue 3).run prog w=.ok (.int .i64 0) w:=by kernel_rfl
 have C:=sv1 es.isEmpty x w
 rcases wx1 x w es.toList (fun e E=>let ⟨y,_,h⟩:=(h1 e E).1;⟨y,h⟩) with ⟨H,I⟩|⟨j,e,H,I,Z⟩
 ·refine⟨0,w_ _,?_,?_⟩
  ·have:x∉M:=fun hm=>by
    obtain⟨e,E,J⟩:=h2 x hm;exact I e E J
   simp[this]
  ·unfold It.val at H ⊢
   simp[Instr.lookup,run_underlying Q,MapKept.run_getObj_map O,C,H,U]
 ·have E:=t_ I
  obtain⟨⟨y,hy,J⟩,⟨c,c1,c2,c3⟩,_⟩:=h1 e E;refine⟨c,c2,?_,?_⟩
  ·have:x=y:=val_inj (Z.symm.trans J)
   subst this;simp[hy];omega
  ·unfold It.val at H ⊢
   simp[Instr.lookup,run_underlying Q,MapKept.run_getObj_map O,C,H,c3]
theorem ry4.look {w:World} {b:Nat} {M:List It} {x:It} {st B:Nat} (h:ry4 w b M x st B) (y:It):∃c:Nat,c<=B/\(Instr.lookup 165 (.map (some b)) y.val false).run prog w=.ok (.int .i64 (c:Int)) w:=by
 obtain⟨es,clock,H,h1,h2,i,h3,h4⟩:=h;have I:prog.underlying 165=some (.map 49 3):=by kernel_rfl
 have O:(zeroValue 3).run prog w=.ok (.int .i64 0) w:=by kernel_rfl
 have C:=sv1 es.isEmpty y w
 rcases wx1 y w es.toList (fun e Q=>let ⟨y,_,h⟩:=(h1 e Q).1;⟨y,h⟩) with ⟨E,J⟩|⟨j,e,E,J,U⟩
 ·refine⟨0,w_ _,?_⟩
  unfold It.val at E ⊢;simp[Instr.lookup,run_underlying I,MapKept.run_getObj_map H,C,E,O]
 ·obtain⟨c,c1,c2,_⟩:=h4 j e J
  refine⟨c,c1,?_⟩;unfold It.val at E ⊢;simp[Instr.lookup,run_underlying I,MapKept.run_getObj_map H,C,E,c2]
abbrev putB (w:World) (b:Nat) (o:Obj):World:={ w with heap:=w.heap.setIfInBounds b o }
theorem ox1 {w:World} {b:Nat} {o:Obj} (C:b < w.heap.size):(putB w b o).heap[b]?=some o:=by
 simp[putB,C]
theorem ij1 (w:World) (b:Nat) (o:Obj):w.grownBy (putB w b o) (some b):=⟨rfl,rfl,rfl,by simp,fun k _ C=>by
 simp only[putB];rw[Array.getElem?_setIfInBounds_ne (fun e=>C (by rw[e]))]⟩
theorem MpAt.entry {w:World} {b:Nat} {M:List It} {B:Nat} (h:MpAt w b M B) (x:It):∃(v0:Value) (st:Nat) (o:Obj),(Instr.mapEntry 165 (.map (some b)) x.val).run prog w=.ok (.tuple #[v0,.int .i64 (st:Int)]) (putB w b o)/\ry4 (putB w b o) b M x st B:=by
 obtain⟨es,clock,U,h1,h2⟩:=h;have Z:=(A_.1 U).1;have ht:prog.underlying 165=some (.map 49 3):=by kernel_rfl
 have hz:(zeroValue 3).run prog w=.ok (.int .i64 0) w:=by kernel_rfl
 have a0:=sv1 false x w;have a1:=iz5 x w
 rcases wx1 x w es.toList (fun e C=>let ⟨y,_,h⟩:=(h1 e C).1;⟨y,h⟩) with ⟨k1,k2⟩|⟨j,e,k1,k2,k3⟩
 ·refine⟨.int .i64 0,clock,.map (es.push ⟨x.val,.int .i64 0,clock⟩) (clock+1),?_,es.push ⟨x.val,.int .i64 0,clock⟩,clock+1,ox1 Z,?_,?_,es.toList.length,?_,?_⟩
  ·unfold It.val at k1 ⊢
   simp[Instr.mapEntry,run_underlying ht,MapKept.run_getObj_map U,a0,k1,hz,MapKept.run_setObj_map _ U,goInt]
  ·intro e C
   simp only[bg_,k_,a_]at C
   rcases C with C|rfl
   ·obtain⟨⟨y,H,J⟩,_,hc⟩:=h1 e C
    exact⟨⟨y,x_ _ H,J⟩,o_⟩
   ·exact⟨⟨x,by simp,rfl⟩,by simp⟩
  ·intro y H
   simp only[bg_]
   rcases k_.1 H with H|H
   ·obtain⟨e,C,J⟩:=h2 y H
    exact⟨e,x_ _ C,J⟩
   ·rw[a_.1 H]
    exact⟨_,p_ _ (a_.2 rfl),rfl⟩
  ·simp only[bg_]
   have a7:∀(l:List MapEntry),(∀e∈l,e.born < clock)->l.findIdx? (fun e=>((e.born:Nat):Int)==((clock:Nat):Int))=none:=fun l hl=>by
    rw[ci_];intro e C;have:=hl e C;simp;omega
   rw[List.findIdx?_append,a7 _ (fun e C=>(h1 e C).2.2)];simp[List.findIdx?_cons]
  ·intro j e C
   simp only[bg_]at C
   rcases ah_ j es.toList.length with hj|hj
   ·rw[O_ hj]at C
    obtain⟨_,⟨c,c1,c2,c3⟩,_⟩:=h1 e (t_ C);exact⟨c,c2,c3,fun _=>c1⟩
   ·rw[aj_ hj]at C
    obtain⟨a8,C⟩:=J_.1 C;have a9:j=es.toList.length:=by
     have:j - es.toList.length < 1:=a8;omega
    subst a9;simp only[bQ_,a5_]at C;subst C;exact⟨0,w_ _,rfl,fun h=>absurd rfl h⟩
 ·have C:=t_ k2
  obtain⟨⟨y,H,J⟩,⟨c,c1,c2,c3⟩,_⟩:=h1 e C;have a':x=y:=val_inj (k3.symm.trans J);subst a';have b0:es[j]?=some e:=by simpa using k2
  have I:es.modify j (fun e=>{ e with key:=x.val })=es:=by
   apply Array.ext';rw[bL_];apply List.ext_getElem?;intro i;rw[bq_]
   by_cases a5:j=i
   ·subst a5
    rw[k2];simp only[Option.map_eq_map,a3_,if_pos];rw[<-k3]
   ·simp[a5]
  obtain⟨i,hi⟩:∃i,es.toList.findIdx? (fun O=>((O.born:Nat):Int)==((e.born:Nat):Int))=some i:=by
   cases hf:es.toList.findIdx? (fun O=>((O.born:Nat):Int)==((e.born:Nat):Int)) with
   |some i=>exact⟨i,rfl⟩
   |none=>
    rw[ci_]at hf;have:=hf e C;simp at this
  refine⟨.int .i64 (c:Int),e.born,.map es clock,?_,es,clock,ox1 Z,?_,?_,i,hi,?_⟩
  ·unfold It.val at k1 k3 I a1 ⊢
   simp[Instr.mapEntry,run_underlying ht,MapKept.run_getObj_map U,a0,k1,b0,k3,a1,I,c3,MapKept.run_setObj_map _ U,goInt]
  ·intro O Q
   obtain⟨⟨y,H,J⟩,_,hc⟩:=h1 O Q;exact⟨⟨y,x_ _ H,J⟩,hc⟩
  ·intro y' E
   rcases k_.1 E with E|E
   ·exact h2 y' E
   ·rw[a_.1 E]
    exact⟨e,C,k3⟩
  ·intro j' O Q
   obtain⟨_,⟨c',b1,b2,b3⟩,_⟩:=h1 O (t_ Q);exact⟨c',b2,b3,fun _=>b1⟩
theorem ry4.store {w:World} {b:Nat} {M:List It} {x:It} {st B:Nat} (h:ry4 w b M x st B) (c:Nat) (Q:1<=c) (U:c<=B+1):∃o:Obj,(Instr.entryStore 165 (.map (some b)) (.int .i64 (st:Int)) (.int .i64 (c:Int))).run prog w=.ok () (putB w b o)/\MpAt (putB w b o) b (M++[x]) (B+1):=by
 obtain⟨es,clock,Z,h1,h2,i,h3,h4⟩:=h;have a0:=(A_.1 Z).1;have a1:es.findIdx? (fun e=>((e.born:Nat):Int)==((st:Nat):Int))=some i:=by
  have e1:es.findIdx? (fun e=>((e.born:Nat):Int)==((st:Nat):Int))=es.toList.findIdx? (fun e=>((e.born:Nat):Int)==((st:Nat):Int)):=by cases es;simp
  rw[e1];exact h3
 refine⟨.map (es.modify i fun e=>{ e with val:=.int .i64 (c:Int) }) clock,?_,es.modify i fun e=>{ e with val:=.int .i64 (c:Int) },clock,ox1 a0,?_,?_⟩
 ·simp[Instr.entryStore,MapKept.run_getObj_map Z,asInt,asIntOf,a1,MapKept.run_setObj_map _ Z]
 ·intro e J
  rw[bL_]at J;obtain⟨j,hj⟩:=bC_ J;rw[bq_]at hj
  cases E:es.toList[j]? with
  |none=>rw[E]at hj;simp at hj
  |some O=>
   rw[E]at hj;obtain⟨H,I⟩:=h1 O (t_ E);obtain⟨c',d1,d2,d3⟩:=h4 j O E
   by_cases C:i=j
   ·have h5:({ O with val:=.int .i64 (c:Int) }:MapEntry)=e:=by simpa [C] using hj
    subst h5;exact⟨H,⟨c,Q,U,rfl⟩,I⟩
   ·have h5:O=e:=by simpa [C] using hj
    subst h5;exact⟨H,⟨c',d3 (fun e=>C e.symm),o_,d2⟩,I⟩
 ·intro y hy
  obtain⟨e,J,H⟩:=h2 y hy;obtain⟨j,hj⟩:=bC_ J;rw[bL_]
  by_cases C:i=j
  ·refine⟨{ e with val:=.int .i64 (c:Int) },?_,H⟩
   apply t_ (i:=j);rw[bq_,hj];simp[C]
  ·refine⟨e,?_,H⟩
   apply t_ (i:=j);rw[bq_,hj];simp[C]
namespace St
def writes (lev:Int):List (List It)->Sd->List ((Int×Int)×List (List It))->Sd×List ((Int×Int)×List (List It))×Nat
 |[],S,acc=>(S,acc,0)
 |r::rs,S,acc=>if (write S r).2≠0 then ((write S r).1,acc,(write S r).2) else writes lev rs (write S r).1 (acc++[((lev,number S),Tb.rows r)])
theorem pj1 {lev:Int}:∀{xs C:List (List It)} {S:Sd} {acc:List ((Int×Int)×List (List It))},writes lev (xs++C) S acc=if (writes lev xs S acc).2.2≠0 then writes lev xs S acc else writes lev C (writes lev xs S acc).1 (writes lev xs S acc).2.1
 |[],C,S,acc=>rfl
 |a::xs,C,S,acc=>by
  rw[T_]
  by_cases h:(write S a).2≠0
  ·simp only[writes,if_pos h]
  ·simp only[writes,if_neg h]
   exact pj1
def drops:List Int->Sd->Sd
 |[],S=>S
 |n::r,S=>drops r (S.remove (Mn.name Mn.kTab n)).1
theorem gk3:∀{xs C:List Int} {S:Sd},drops (xs++C) S=drops C (drops xs S)
 |[],_,_=>rfl
 |a::xs,C,S=>gk3 (xs:=xs)
def mergeD (tabs:List ((Int×Int)×List (List It))) (next:List It) (V:Sv):Sv:={ V with tabs:=tabs,st:=next }
def merge (S:Sd) (V:Sv) (inn:List Int) (lev:Int) (l next:List It):Sd×Sv×Nat:=
 let a:=writes lev (Tb.cut 200 l.length l) S []
 if a.2.2≠0 then (a.1,V,a.2.2) else
 let r:=turn a.1 V ⟨inn,a.2.1.map (·.1),0,0,0,0,0⟩ (mergeD (V.tabs.filter (fun t=>!decide (t.1.2∈inn))++a.2.1) next)
 if r.2.2=0 then (drops inn r.1,r.2.1,0) else r
theorem zk3 {S S1:Sd} {V:Sv} {inn:List Int} {lev:Int} {l next:List It} {pre:List (List It)} {r:List It} {acc:List ((Int×Int)×List (List It))} (E:pre++[r]=(Tb.cut 200 l.length l).take (pre.length+1)) (H:writes lev pre S []=(S1,acc,0)) (C:(write S1 r).2≠0):
  merge S V inn lev l next=((write S1 r).1,V,(write S1 r).2):=by
 have I:Tb.cut 200 l.length l=(pre++[r])++(Tb.cut 200 l.length l).drop (pre.length+1):=by rw[E,al_]
 have h1:writes lev (pre++[r]) S []=((write S1 r).1,acc,(write S1 r).2):=by
  rw[pj1,H,if_neg s_];simp only[writes,if_pos C]
 have h2:writes lev (Tb.cut 200 l.length l) S []=((write S1 r).1,acc,(write S1 r).2):=by rw[I,pj1,h1,if_pos C]
 unfold merge;simp only[h2,if_pos C]
theorem wx3 {S S1:Sd} {V:Sv} {inn:List Int} {lev:Int} {l next:List It} {acc:List ((Int×Int)×List (List It))} (C:writes lev (Tb.cut 200 l.length l) S []=(S1,acc,0)):
  merge S V inn lev l next=if (turn S1 V ⟨inn,acc.map (·.1),0,0,0,0,0⟩ (mergeD (V.tabs.filter (fun t=>!decide (t.1.2∈inn))++acc) next)).2.2=0 then (drops inn (turn S1 V ⟨inn,acc.map (·.1),0,0,0,0,0⟩ (mergeD (V.tabs.filter (fun t=>!decide (t.1.2∈inn))++acc) next)).1,(turn S1 V ⟨inn,acc.map (·.1),0,0,0,0,0⟩ (mergeD (V.tabs.filter (fun t=>!decide (t.1.2∈inn))++acc) next)).2.1,0) else turn S1 V ⟨inn,acc.map (·.1),0,0,0,0,0⟩ (mergeD (V.tabs.filter (fun t=>!decide (t.1.2∈inn))++acc) next):=by
 unfold merge;simp only[C];rw[if_neg s_]
def ey1 (S:Sd) (V:Sv) (v:Nat):Sd×Sv×Nat:=
 let a:=flush S V
 if a.2.2≠0 then a else
 if (yj a.2.1.st v).length=a.2.1.st.length then (a.1,a.2.1,0) else
 merge a.1 a.2.1 (a.2.1.tabs.map fun t=>t.1.2) 3 (yj (clean (Mg.rows (a.2.1.tabs.map fun t=>t.2.flatten))) v) (yj a.2.1.st v)
end St
theorem ek3 (a:It) (v b:Nat) (w:World) (O:w.cell? ⟨b,0,none⟩=some (.int .u64 (v:Int))):
  Calls prog 158 (#[a.val] ++#[.pointer (some ⟨b,0,none⟩)]) w fun e w'=>e=.returned (.bool (a.k==1&&decide (a.v<=v)))/\Below w.heap.size w w':=by
 obtain⟨Q,I,t1,J,U⟩:=a;have C:=b_ w (.cells #[.int .i64 Q,.int .i64 I,.int .u64 (t1:Int),.int .u64 (J:Int),.int .i64 U] 49);have Z:∀o,(w.alloc o).cell? ⟨b,0,none⟩=some (.int .u64 (v:Int)):=fun o=>(R_ w o _ (M_ w _ O)).trans O;obtain⟨r,E⟩:=n_ ((I==1&&decide (J<=v)));unfold It.val;simp only;rw[<-E]
 by_cases h1:I=1
 ·subst h1
  by_cases h2:(J:Int)<=(v:Int)
  ·have H:=H_ (E.trans (show _=true by simp;omega))
   clear E;go_enter func158,ntmps158;go_wp2;go_ret;exact⟨ik H.out.symm,C⟩
  ·have H:=H_ (E.trans (show _=false by simp;omega))
   clear E;go_enter func158,ntmps158;go_wp2;go_ret;exact⟨ik H.out.symm,C⟩
 ·have e1:(I==1)=false:=by simpa using h1
  have H:=H_ (E.trans (show _=false by simp[h1]));clear E;go_enter func158,ntmps158;go_wp2;go_ret;exact⟨ik H.out.symm,C⟩
theorem kz23 {P S a oi v} (h:Hv P S a oi v:=by intro w C;(obtain⟨x0,x1,x2,x3,x4⟩:=KC.out w C);go_simp;try (with_reducible rfl)):Hv P S a oi v:=h
theorem kz24 {P S a oi v} (h:Hv P S a oi v:=by intro w C;(obtain⟨⟨x0,x1,x2,x3,x4⟩,y0,y1,y2,y3,y4⟩:=KC.out w C);go_simp;try (with_reducible rfl)):Hv P S a oi v:=h
theorem gj4 (A:Option Addr) (n c:Nat) (l:List It) (w:World) (hn:n<=1000000) (hS:Stt l) (hr:Row w.heap.size w A n 5 (itc l)):
  Calls prog 148 #[.slice A n c] w fun e w'=>e=.returned (.bool true)/\Below w.heap.size w w':=by
 have d8:=hr.qj;have HS:=H_ hS;clear hS;go_enter func148,ntmps148;go_wp2
 go_loopw [3] (fun i wr=>∃k:Nat,k<=n/\i=.int .i64 (k:Int)/\Below w.heap.size w wr) (fun i _=>n - (intOf i).toNat)
 case atStart=>exact⟨0,w_ _,rfl,Below.refl _ _⟩
 case round=>
  obtain⟨k,hk,rfl,E⟩:=hrel
  by_cases b3:k < n
  ·obtain⟨a,hl,rfl,a6,hd⟩:=(hr.below E).it b3
   have Z:=HS.out.ok _ (u_ hl);have I:=fun W=>oz3 l[k] W;simp only[Z]at I;have H:∀(j:Nat) (hj:j < l.length),j < k->It.less l[j] l[k]=true:=fun j hj b5=>ap_.1 HS.out.rises j k hj hl b5;generalize a7:l[k]=x at *;have J:∀w',Below wr.heap.size wr w'->w'.cell? (a.add (k *5))=some (.int .i64 x.s)/\w'.cell? ⟨(a.add (k *5)).block,(a.add (k *5)).off+1,none⟩=some (.int .i64 x.k)/\w'.cell? ⟨(a.add (k *5)).block,(a.add (k *5)).off+2,none⟩=some (.int .u64 (x.t:Int))/\w'.cell? ⟨(a.add (k *5)).block,(a.add (k *5)).off+3,none⟩=some (.int .u64 (x.v:Int))/\w'.cell? ⟨(a.add (k *5)).block,(a.add (k *5)).off+4,none⟩=some (.int .i64 x.x):=fun w' hb=>by
    have h1:=hd.below (B:=wr.heap.size) (w':=w') (N_ a6 E.size) hb;exact⟨h1.c0,h1.c1,h1.c2,h1.c3,h1.c4⟩
   unfold It.val at I;have O:=H_ I;have d9:(k:Int) < (n:Int):=o_
   have d':IntKind.i64.wrap (k:Int)=(k:Int):=D_ _ o_
   rcases ao_ k with h0|h0
   ·have b6:((0:Int) < (k:Int))=False:=eq_false o_
    have b7:(0 < k)=False:=eq_false o_;have KC:=H_ J;clear h0 J I Z H a7 hd;go_wp2_with fail;refine w_h wr fun C=>?_;refine w_v 0 C ?_ (k:=kz23);go_simp;refine w_v 1 C ?_ (k:=kz23);go_simp;refine w_v 2 C ?_ (k:=kz23);go_simp;refine w_v 3 C ?_ (k:=kz23);go_simp;refine w_r 4 fun K U=>?_;go_simp
    with_reducible refine(O.out _).mono ?_
    rintro e w1 ⟨rfl,a0⟩;go_simp;refine U.out _ _ (C.trans (a0.mono C.size)) ?_;clear C U K;intro C;go_simp;refine w_v 5 C ?_ (k:=kz23);go_simp;refine w_v 6 C ?_ (k:=kz23);go_simp;refine w_v 7 C ?_ (k:=kz23);go_simp;refine w_v 8 C ?_ (k:=kz23);go_simp;refine w_v 9 C ?_ (k:=kz23);go_simp;refine wpT0 (i:=10) C ?_;go_simp;refine wpT0 (i:=11) C ?_;go_simp;refine wpT0 (i:=12) C ?_;go_simp;refine wpT0 (i:=13) C ?_;go_simp;refine wpT0 (i:=14) C ?_;go_simp;refine wpT0 (i:=15) C ?_;go_simp;refine wpT0 (i:=16) C ?_;go_simp;refine wpT0 (i:=17) C ?_;go_simp;refine wpT0 (i:=18) C ?_;go_simp;refine wpT0 (i:=19) C ?_;go_simp;refine wpT0 (i:=20) C ?_;go_simp;refine w_v 21 C ?_ (k:=kz23);go_simp;refine w_v 22 C ?_ (k:=kz23);go_simp;refine w_d ?_;have a1:=E.trans (C.mono E.size);clear C KC O;go_wp2;go_roundw
    case rel=>exact⟨k+1,o_,by go_num,a1⟩
    case measure=>simp[intOf];omega
   ·obtain⟨j,hj⟩:∃j,k=j+1:=⟨k - 1,o_⟩
    obtain⟨a2,b8,ea,_,a8⟩:=(hr.below E).it (k:=j) o_;injection ea with ea;subst ea;have Q:=fun W=>ty1 l[j] x W;rw[H j b8 o_]at Q;generalize l[j]=y at *;unfold It.val at Q;have a9:∀w',Below wr.heap.size wr w'->(w'.cell? (a.add (k *5))=some (.int .i64 x.s)/\w'.cell? ⟨(a.add (k *5)).block,(a.add (k *5)).off+1,none⟩=some (.int .i64 x.k)/\w'.cell? ⟨(a.add (k *5)).block,(a.add (k *5)).off+2,none⟩=some (.int .u64 (x.t:Int))/\w'.cell? ⟨(a.add (k *5)).block,(a.add (k *5)).off+3,none⟩=some (.int .u64 (x.v:Int))/\w'.cell? ⟨(a.add (k *5)).block,(a.add (k *5)).off+4,none⟩=some (.int .i64 x.x))/\w'.cell? (a.add (j *5))=some (.int .i64 y.s)/\w'.cell? ⟨(a.add (j *5)).block,(a.add (j *5)).off+1,none⟩=some (.int .i64 y.k)/\w'.cell? ⟨(a.add (j *5)).block,(a.add (j *5)).off+2,none⟩=some (.int .u64 (y.t:Int))/\w'.cell? ⟨(a.add (j *5)).block,(a.add (j *5)).off+3,none⟩=some (.int .u64 (y.v:Int))/\w'.cell? ⟨(a.add (j *5)).block,(a.add (j *5)).off+4,none⟩=some (.int .i64 y.x):=fun w' hb=>by
     have h2:=a8.below (B:=wr.heap.size) (w':=w') (N_ a6 E.size) hb;exact⟨J w' hb,h2.c0,h2.c1,h2.c2,h2.c3,h2.c4⟩
    have b6:(0:Int) < (k:Int):=o_
    have b7:0 < k:=h0;have b':(k:Int) - 1=(j:Int):=o_
    have c9:IntKind.i64.wrap (j:Int)=(j:Int):=D_ _ o_;have e1:IntKind.i64.wrap ((k:Int) - 1)=(j:Int):=by rw[b'];exact c9
    have e2:(j:Int) < (n:Int):=o_
    have KC:=H_ a9;have a':=H_ Q;clear J I Z H a7 hd a9 Q a8 hj h0;go_wp2_with fail;refine w_h wr fun C=>?_;refine w_v 0 C ?_ (k:=kz24);go_simp;refine w_v 1 C ?_ (k:=kz24);go_simp;refine w_v 2 C ?_ (k:=kz24);go_simp;refine w_v 3 C ?_ (k:=kz24);go_simp;refine w_r 4 fun K U=>?_;go_simp
    with_reducible refine(O.out _).mono ?_
    rintro e w1 ⟨rfl,a0⟩;go_simp;refine U.out _ _ (C.trans (a0.mono C.size)) ?_;clear C U K;intro C;go_simp;refine w_v 5 C ?_ (k:=kz24);go_simp;refine w_v 6 C ?_ (k:=kz24);go_simp;refine w_v 7 C ?_ (k:=kz24);go_simp;refine w_v 8 C ?_ (k:=kz24);go_simp;refine w_v 9 C ?_ (k:=kz24);go_simp;refine w_v 10 C ?_ (k:=kz24);go_simp;refine w_v 11 C ?_ (k:=kz24);go_simp;refine w_v 12 C ?_ (k:=kz24);go_simp;refine w_v 13 C ?_ (k:=kz24);go_simp;refine w_v 14 C ?_ (k:=kz24);go_simp;refine w_v 15 C ?_ (k:=kz24);go_simp;refine w_v 16 C ?_ (k:=kz24);go_simp;refine w_v 17 C ?_ (k:=kz24);go_simp;refine w_v 18 C ?_ (k:=kz24);go_simp;refine w_r 19 fun K U=>?_;go_simp
    with_reducible refine(a'.out _).mono ?_
    rintro e w3 ⟨rfl,c'⟩;go_simp;refine U.out _ _ (C.trans (c'.mono C.size)) ?_;clear C U K;intro C;go_simp;refine w_v 20 C ?_ (k:=kz24);go_simp;refine w_v 21 C ?_ (k:=kz24);go_simp;refine w_v 22 C ?_ (k:=kz24);go_simp;refine w_d ?_;have a1:=E.trans (C.mono E.size);clear C KC O a';go_wp2;go_roundw
    case rel=>exact⟨k+1,o_,by go_num,a1⟩
    case measure=>simp[intOf];omega
  ·go_wp2
   go_ret;exact⟨rfl,E⟩
theorem kz30 {P S a oi v} (h:Hv P S a oi v:=by intro w C;(obtain⟨⟨x0,x1,x2,x3,x4⟩,y0,y1,y2,y3,y4⟩:=KC.out w C);go_simp;try (with_reducible rfl)):Hv P S a oi v:=h
theorem zq3 (A:Option Addr) (n c:Nat) (l:List It) (w:World) (hn:n<=1000000) (hS:Stt l) (hr:Row w.heap.size w A n 5 (itc l)):
  Calls prog 69 #[.slice A n c] w fun e w'=>e=.returned (.bool true)/\Below w.heap.size w w':=by
 have b':=hr.qj;have HS:=H_ hS;have a0:=fun W (hb:Below w.heap.size w W)=>gj4 A n c l W hn hS ((hr.below hb).up hb.size);have a9:=H_ a0;clear hS a0;go_enter func69,ntmps69;go_wp2
 go_loopw [3] (fun i wr=>∃k:Nat,k<=n/\i=.int .i64 (k:Int)/\Below w.heap.size w wr) (fun i _=>n - (intOf i).toNat)
 case atStart=>exact⟨0,w_ _,rfl,Below.refl _ _⟩
 case round=>
  obtain⟨k,hk,rfl,J⟩:=hrel
  by_cases a':k < n
  ·have b0:(k:Int) < (n:Int):=o_
   have c':IntKind.i64.wrap (k:Int)=(k:Int):=D_ _ o_;go_wp2_with fail
   go_loopw [4] (fun i w2=>∃q:Nat,q<=n/\i=.int .i64 (q:Int)/\Below w.heap.size w w2) (fun i _=>n - (intOf i).toNat)
   case atStart=>exact⟨0,w_ _,rfl,J⟩
   case round=>
    obtain⟨q,hq,rfl,E⟩:=hrel
    by_cases b1:q < n
    ·obtain⟨a,hl,rfl,a4,hd⟩:=(hr.below E).it a'
     obtain⟨a2,b2,ea,_,O⟩:=(hr.below E).it b1;injection ea with ea;subst ea;have Q:=HS.out.bare _ (u_ hl) _ (u_ b2);have H:=fun W=>yy1 l[k] l[q] W;rw[Q]at H;generalize l[k]=x at *;generalize l[q]=y at *;have U:∀w',Below wr.heap.size wr w'->(w'.cell? (a.add (k *5))=some (.int .i64 x.s)/\w'.cell? ⟨(a.add (k *5)).block,(a.add (k *5)).off+1,none⟩=some (.int .i64 x.k)/\w'.cell? ⟨(a.add (k *5)).block,(a.add (k *5)).off+2,none⟩=some (.int .u64 (x.t:Int))/\w'.cell? ⟨(a.add (k *5)).block,(a.add (k *5)).off+3,none⟩=some (.int .u64 (x.v:Int))/\w'.cell? ⟨(a.add (k *5)).block,(a.add (k *5)).off+4,none⟩=some (.int .i64 x.x))/\w'.cell? (a.add (q *5))=some (.int .i64 y.s)/\w'.cell? ⟨(a.add (q *5)).block,(a.add (q *5)).off+1,none⟩=some (.int .i64 y.k)/\w'.cell? ⟨(a.add (q *5)).block,(a.add (q *5)).off+2,none⟩=some (.int .u64 (y.t:Int))/\w'.cell? ⟨(a.add (q *5)).block,(a.add (q *5)).off+3,none⟩=some (.int .u64 (y.v:Int))/\w'.cell? ⟨(a.add (q *5)).block,(a.add (q *5)).off+4,none⟩=some (.int .i64 y.x):=fun w' hb=>by
      have h1:=hd.below (B:=wr.heap.size) (w':=w') (N_ a4 E.size) hb;have h2:=O.below (B:=wr.heap.size) (w':=w') (N_ a4 E.size) hb;exact⟨⟨h1.c0,h1.c1,h1.c2,h1.c3,h1.c4⟩,h2.c0,h2.c1,h2.c2,h2.c3,h2.c4⟩
     unfold It.val at H;have KC:=H_ U;have I:=H_ H;have a5:(q:Int) < (n:Int):=o_
     have d2:IntKind.i64.wrap (q:Int)=(q:Int):=D_ _ o_;have c1:=hd.c1
     by_cases h1:x.k=1
     ·have e1:(x.k==1)=true:=by simp[h1]
      rw[h1]at H;have I:=H_ H;clear U H hd O Q;go_wp2_with fail;refine w_h wr fun C=>?_;refine w_v 0 C ?_ (k:=kz30);go_simp;refine w_v 1 C ?_ (k:=kz30);go_simp;refine w_v 2 C ?_ (k:=kz30);go_simp;refine w_v 3 C ?_ (k:=kz30);go_simp;refine w_v 4 C ?_ (k:=kz30);go_simp;refine w_v 5 C ?_ (k:=kz30);go_simp;refine w_v 6 C ?_ (k:=kz30);go_simp;refine w_v 7 C ?_ (k:=kz30);go_simp;refine w_r 8 fun K hK=>?_;go_simp
      with_reducible refine(I.out _).mono ?_
      rintro e w3 ⟨rfl,Z⟩;go_simp;refine hK.out _ _ (C.trans (Z.mono C.size)) ?_;clear C hK K;intro C;go_simp;refine w_d ?_;have b5:=E.trans (C.mono E.size);clear C KC I;go_wp2;go_roundw
      case rel=>exact⟨q+1,o_,by go_num,b5⟩
      case measure=>simp[intOf];omega
     ·have e1:(x.k==1)=false:=by simpa using h1
      clear U H hd O Q KC I;go_wp2;go_roundw
      case rel=>exact⟨k+1,o_,by go_num,E⟩
      case measure=>simp[intOf];omega
    ·have a5:((q:Int) < (n:Int))=False:=eq_false o_
     go_wp2;go_roundw
     case rel=>exact⟨k+1,o_,by go_num,E⟩
     case measure=>simp[intOf];omega
  ·have b0:((k:Int) < (n:Int))=False:=eq_false o_
   go_wp2_with fail;refine(a9.out _ J).mono ?_;rintro e w3 ⟨rfl,Z⟩;have b6:=az J Z;go_wp2;go_ret;exact⟨rfl,b6⟩
namespace Aw
def y:It:=⟨3,2,7,9,5⟩
def dflt:Sv:=⟨St.first,[],0,0,[],[],[],false⟩
def c0:Sd×Option Sv×Nat:=Ls.create Ls.list (Sd.new 1048576)
def S0:Sd:=c0.1
def V0:Sv:=c0.2.1.getD dflt
def r1:Sd×Sv×Nat:=St.apply S0 V0 [y]
def r2:Sd×Sv×Nat:=Ls.flush Ls.list r1.1 r1.2.1
theorem dw5 {α:Type} {o:Option α} {d:α} (h:o.isSome=true):o=some (o.getD d):=by cases o<;>simp at h ⊢
theorem sz5:c0.2.1.isSome=true:=by decide+kernel
theorem sv5:c0.2.2=0:=by decide+kernel
theorem born:St.create (Sd.new 1048576)=(S0,some V0,0):=by
 rw[Ls.gj2];have h3:=dw5 (d:=dflt) sz5;have h2:=sv5;show c0=_
 unfold S0 V0;generalize c0=c at *;obtain⟨a,b,n⟩:=c;simp only at h2 h3 ⊢;rw[h2,<-h3]
theorem f0:V0.st=[]/\V0.mem=[]/\V0.sz=0/\V0.ct=0/\V0.nm.length<=1000:=by decide+kernel
theorem f1:(St.apply S0 V0 [y]).2.2=0:=by decide+kernel
theorem f2:r1.2.1.mem=[y]/\r1.2.1.st=[y]/\Tb.good (St.live r1.2.1)=true/\r1.2.1.M.v.files.length<=40/\(1<=r1.2.1.M.v.log/\r1.2.1.M.v.log<=1073741824)/\r1.2.1.M.count<=1000000000/\r1.2.1.M.name.length<=1000/\r1.1.load<=100000000000:=by decide+kernel
theorem xv5:St.flush r1.1 r1.2.1=r2:=Ls.gk5 _ _
theorem f3:r2.2.2=0:=by decide+kernel
theorem f4:r2.2.1.tabs.length=1/\r2.2.1.st=[y]:=by decide+kernel
end Aw
section
end
theorem pv3 (A:Option Addr) (n c:Nat) (l:List It) (v:Int) (w:World) (hn:n<=1000000) (hr:Row w.heap.size w A n 5 (itc l)):
  Calls prog 79 #[.slice A n c,.int .i64 v] w (dw1 w (l.filter fun a=>a.s==v)):=by
 have d2:=hr.qj;obtain⟨i0,a',b0,b1,b2⟩:=info_parts qw;obtain⟨P,hP⟩:∃P:It->Bool,P=fun y=>y.s==v:=⟨_,rfl⟩;have HP:=H_ (fun y=>congrFun hP y);rw[<-hP];clear hP;go_enter func79,ntmps79;go_wp2
 go_loopw [5,6] (fun s i wr=>∃(k q:Nat) (A2:Option Addr) (c2:Nat),k<=n/\s=.slice A2 q c2/\i=.int .i64 (k:Int)/\Hid (q=((l.take k).filter P).length/\wr.ownsRow w.heap.size 49 5 (.slice A2 q c2) q (itc ((l.take k).filter P)))/\Below w.heap.size w wr) (fun _ i _=>n - (intOf i).toNat)
 case atStart=>exact⟨0,0,none,0,w_ _,rfl,rfl,H_ ⟨rfl,E_ _ _ _ _⟩,Below.refl _ _⟩
 case round=>
  obtain⟨k,q,A2,c2,hk,rfl,rfl,I,E⟩:=hrel
  by_cases b5:k < n
  ·obtain⟨p,hl,rfl,d6,c0,c1,b6,c3,c4⟩:=(hr.below E).it b5
   have C:=fw1 (P:=P) hl;have d7:q<=1000000:=by
    have h1:=I.out.1;have h2:=L_ P (l.take k);rw[v_]at h2;omega
   generalize l[k]=x at *;have H:=HP.out x;have d8:IntKind.i64.wrap (k:Int)=(k:Int):=D_ _ o_
   by_cases hT:x.s=v
   ·rw[if_pos (by rw[H];simpa using hT)]at C
    obtain⟨xs,J,O,Q,U⟩:=x;simp only at hT c0 c1 b6 c3 c4;subst hT;have a4:BoxO (wr.alloc (.cells #[.int .i64 xs,.int .i64 J,.int .u64 (O:Int),.int .u64 (Q:Int),.int .i64 U] 49)) 49 wr.heap.size (It.cells ⟨xs,J,O,Q,U⟩):=BoxO.new wr #[.int .i64 xs,.int .i64 J,.int .u64 (O:Int),.int .u64 (Q:Int),.int .i64 U] 49;have a1:=b_ wr (.cells #[.int .i64 xs,.int .i64 J,.int .u64 (O:Int),.int .u64 (Q:Int),.int .i64 U] 49);have HR:=H_ (az1 a4);have HO:=H_ (own_below I.out.2 a1);have HB:=H_ (az E a1);have HX:=H_ (show itc ((l.take k).filter P)++(It.cells ⟨xs,J,O,Q,U⟩)=itc ((l.take (k+1)).filter P) by rw[C,lq];simp[itc]);have a5:=H_ (show q+1=((l.take (k+1)).filter P).length by rw[C,d_,<-I.out.1];rfl);clear C I a4 a1 H;go_wp2_with (at_builtin;refine iy ?_);refine bz (iq rfl (.tmp 20) (.tmp 25) _ rfl w.heap.size 49 i0 _ 5 40 underlying26 a' b0 b1 b2 rfl o_ w HB.out HB.out.size _ q (itc ((l.take k).filter P)) rfl HO.out (wr.alloc (.cells #[.int .i64 xs,.int .i64 J,.int .u64 (O:Int),.int .u64 (Q:Int),.int .i64 U] 49)).heap.size _ 1 1 (It.cells ⟨xs,J,O,Q,U⟩) rfl HR.out (fun v hv=>uj [⟨xs,J,O,Q,U⟩] v (by simpa [itc] using hv)) (q+1) _ rfl HX.out (by unfold maxLen;omega) o_ ?_);intro A3 c3 w5 h1 h2 h3 h4 h5;have H5:=H_ (c_ a5.out h1);clear h1 h3 a5 HX HR HO HB;go_wp2;go_roundw
    case rel=>exact⟨k+1,q+1,A3,c3,o_,rfl,by go_num,H5.out,h2⟩
    case measure=>simp[intOf];omega
   ·rw[if_neg (by rw[H];simpa using hT),ak_]at C
    have H3:=H_ (show q=((l.take (k+1)).filter P).length/\wr.ownsRow w.heap.size 49 5 (.slice A2 q c2) q (itc ((l.take (k+1)).filter P)) by rw[C];exact I.out);clear C I H;have e1:(x.s==v)=false:=by simpa using hT
    go_wp2;go_roundw
    case rel=>exact⟨k+1,q,A2,c2,o_,rfl,by go_num,H3.out,E⟩
    case measure=>simp[intOf];omega
  ·have Z:l.take k=l:=g_ o_
   have hq:=I.out;rw[Z]at hq;obtain⟨A3,c3,hv,a7,a8,a0⟩:=gz hq.2;injection hv with e1 e2 e3;subst e1 e3;have a9:=H_ (c_ hq.1 (show Its w.heap.size wr A2 q c2 (l.filter P) from ⟨Row.own hq.2,a7,a8,fun p hp=>(a0 p hp).1⟩));clear hq Z a0 a7 a8 I;go_wp2;go_ret;exact⟨A2,q,c2,rfl,a9.out.1,a9.out.2,E⟩
section
open It
namespace Mg
theorem dv4 {a b:It} (h:less a b=true):less b a=false:=by
 cases e:less b a with
 |false=>rfl
 |true=>
  have:=cz1 h e;rw[gz1]at this
  cases this
theorem qq5 {a b c:It} (h:less a b=false) (h2:a=c\/less a c=true):less c b=false:=by
 cases e:less c b with
 |false=>rfl
 |true=>
  rcases h2 with rfl|h2
  ·rw[h]at e;cases e
  ·rw[cz1 h2 e]at h;cases h
theorem oj3 {ls:List (List It)}:∀{k j:Nat},sel ls k=some j->∀{x:It} {r:List It},ls.getD j []=x::r->∀i,i < k->∀{y:It} {q:List It},ls.getD i []=y::q->less y x=false
 |k+1,j,h,x,r,H,i,hi,y,q,C=>by
  unfold sel at h;split at h
  ·next E=>
   injection h with h;subst h
   rcases Nat.lt_succ_iff_lt_or_eq.1 hi with hi|rfl
   ·cases hs:sel ls k with
    |none=>
     rw[rk3 hs i hi]at C
     cases C
    |some J=>
     rw[H,hs]at E;obtain⟨_,z,p,I⟩:=kq2 hs;unfold hd at E;simp only[I]at E;have h1:=oj3 hs I i hi C
     cases e:less y x with
     |false=>rfl
     |true=>rw[cz1 e E]at h1;cases h1
   ·rw[H]at C
    injection C with C;rw[<-C];exact gz1 x
  ·next E=>
   rcases Nat.lt_succ_iff_lt_or_eq.1 hi with hi|rfl
   ·exact oj3 h H i hi C
   ·rw[C,h]at E
    unfold hd at E;simp only[H]at E;simpa using E
structure Inv (ls:List (List It)) (out:List It):Prop where
 rise:qx out
 last:∀y,out.getLast?=some y->∀i,∀z∈ls.getD i [],less z y=false
 rows:∀i,qx (ls.getD i [])
theorem sy2 {ls:List (List It)} {j i:Nat} {r:List It} (hj:j < ls.length):(ls.set j r).getD i []=if i=j then r else ls.getD i []:=by
 rw[B_,List.getElem?_set,B_]
 by_cases e:j=i
 ·subst e
  simp[hj]
 ·rw[if_neg e,if_neg fun q=>e q.symm]
theorem Inv.step {ls:List (List It)} {out:List It} (h:Inv ls out) {j:Nat} {x:It} {r:List It} (hs:sel ls ls.length=some j) (hx:ls.getD j []=x::r):Inv (ls.set j r) (put out x):=by
 have hj:=(kq2 hs).1;have Z:=h.rows j;rw[hx]at Z;obtain⟨r1,r2⟩:=U_.1 Z;have I:∀i,∀z∈(ls.set j r).getD i [],less z x=false:=fun i z H=>by
  rw[sy2 hj]at H;split at H
  ·exact dv4 (r1 z H)
  ·have hi:i < ls.length:=by
    apply aN_;intro hn;rw[B_,List.getElem?_eq_none o_]at H
    cases H
   cases hr:ls.getD i [] with
   |nil=>rw[hr]at H;cases H
   |cons y q=>
    have h1:=oj3 hs hx i hi hr;have h2:=h.rows i;rw[hr]at h2 H
    rcases f_.1 H with e|e
    ·rw[e];exact h1
    ·exact qq5 h1 (.inr ((U_.1 h2).1 z e))
 have E:∀i,qx ((ls.set j r).getD i []):=fun i=>by
  rw[sy2 hj];split
  ·exact r2
  ·exact h.rows i
 have a5:x∈ls.getD j []:=by rw[hx];exact i_
 unfold put
 cases hl:out.getLast? with
 |none=>exact⟨a4_ _ _,fun y hy i z H=>by injection hy with hy;rw[<-hy];exact I i z H,E⟩
 |some y=>
  have a8:=h.last y hl j x a5;have U:out=out.dropLast++[y]:=by
   obtain⟨ys,e⟩:=List.getLast?_eq_some_iff.1 hl;rw[e];simp
  have O:=h.rise;rw[U]at O;obtain⟨p1,_,p3⟩:=aO_.1 O;simp only
  by_cases Q:y.same x=true
  ·have C:=same_iff.1 Q
   rw[if_pos Q]
   by_cases hw:x.wins y=true
   ·rw[if_pos hw]
    refine⟨aO_.2 ⟨p1,a4_ _ _,fun a ha b hb=>?_⟩,fun u J i z H=>?_,E⟩
    ·rw[a_.1 hb]
     have:=p3 a ha y (a_.2 rfl);rw[uz]at this ⊢;rw[<-C.1,<-C.2.1,<-C.2.2];exact this
    ·rw[List.getLast?_append]at J
     simp at J;rw[<-J];exact I i z H
   ·rw[if_neg hw]
    refine⟨h.rise,fun u J i z H=>?_,E⟩;rw[hl]at J;injection J with J;rw[<-J];have:=I i z H;rw[bz1]at this ⊢;rw[C.1,C.2.1,C.2.2];exact this
  ·rw[if_neg Q]
   have a0:less y x=true:=by
    cases e:less y x with
    |true=>rfl
    |false=>
     exfalso;apply Q;unfold same;rw[e,a8];rfl
   refine⟨aO_.2 ⟨h.rise,a4_ _ _,fun a ha b hb=>?_⟩,fun u J i z H=>?_,E⟩
   ·rw[a_.1 hb]
    rw[U]at ha
    rcases k_.1 ha with q|q
    ·exact cz1 (p3 a q y (a_.2 rfl)) a0
    ·rw[a_.1 q];exact a0
   ·rw[List.getLast?_append]at J
    simp at J;rw[<-J];exact I i z H
theorem av3:∀(f:Nat) {ls:List (List It)} {out:List It},Inv ls out->qx (run f ls out)
 |0,_,_,h=>h.rise
 |f+1,ls,out,h=>by
  unfold run
  cases hs:sel ls ls.length with
  |none=>exact h.rise
  |some j=>
   simp only
   cases C:ls.getD j [] with
   |nil=>exact h.rise
   |cons x r=>exact av3 f (h.step hs C)
theorem fv4 {ls:List (List It)} (h:∀r∈ls,qx r):qx (rows ls):=by
 refine av3 _ ⟨aY_,fun y C=>by simp at C,fun i=>?_⟩;rw[B_]
 cases e:ls[i]? with
 |none=>exact aY_
 |some r=>exact h r (t_ e)
theorem put_mem {out:List It} {x y:It} (h:y∈put out x):y∈out\/y=x:=by
 unfold put at h;split at h
 ·exact .inr (a_.1 h)
 ·split at h
  ·split at h
   ·rcases k_.1 h with q|q
    ·exact .inl ((List.dropLast_sublist _).subset q)
    ·exact .inr (a_.1 q)
   ·exact .inl h
  ·rcases k_.1 h with q|q
   ·exact .inl q
   ·exact .inr (a_.1 q)
theorem lv4 {p:It->Prop}:∀(f:Nat) {ls:List (List It)} {out:List It},(∀y∈out,p y)->(∀i,∀y∈ls.getD i [],p y)->∀y∈run f ls out,p y
 |0,_,_,h,_=>h
 |f+1,ls,out,h,E=>by
  unfold run
  cases hs:sel ls ls.length with
  |none=>exact h
  |some j=>
   simp only
   cases H:ls.getD j [] with
   |nil=>exact h
   |cons x r=>
    have hj:=E j;rw[H]at hj;refine lv4 f (fun y C=>?_) fun i y C=>?_
    ·rcases put_mem C with q|q
     ·exact h y q
     ·rw[q];exact hj x i_
    ·rw[sy2 (kq2 hs).1]at C
     split at C
     ·exact hj y (e_ _ C)
     ·exact E i y C
theorem yw4 {p:It->Prop} {ls:List (List It)} (h:∀r∈ls,∀y∈r,p y):∀y∈rows ls,p y:=by
 refine lv4 _ (fun y C=>by cases C) fun i y C=>?_;rw[B_]at C
 cases e:ls[i]? with
 |none=>rw[e]at C;cases C
 |some r=>
  rw[e]at C;exact h r (t_ e) y C
end Mg
end
end Go.Proofs.YtkdbagdiplpcfaaGreatDoor
