/- Some of the texts. No conditions. -/
import Derived.Test.YtfbkjjdfboagfaaGreatDoorBunAG
import Derived.Test.YtfbkjjdfboagfaaGreatDoorBunAJ

set_option linter.unusedSimpArgs false
set_option linter.unusedVariables false
set_option maxRecDepth 100000
set_option maxHeartbeats 16000000
namespace Go.Proofs.YtfbkjjdfboagfaaGreatDoor
open Go.Proofs.Tryz Go Go.RowKit Go.Lib Go.Shelf
theorem iy4 {a b:List It} {k:Nat} (h:k < b.length):joins a (b.take (k+1))=add (joins a (b.take k)) b[k]:=by
 unfold joins;rw[v_ h,aS_];rfl
def ej1 (w:World) (R:List It) (e:Ending) (w':World):Prop:=∃A' k,e=.returned (.slice A' k k)/\k=R.length/\Its w w' A' k k R/\Below w w w'
theorem uy1 (A:Option Addr) (n c:Nat) (a:List It) (B:Option Addr) (m d:Nat) (b:List It) (w:World) (e0:n+m<=900000) (d0:n<=c) (d1:c<=maxLen) (hS:Stt a) (ra:Row w w A n 5 (itc a)) (rb:Row w w B m 5 (itc b)):
  Calls prog 46 #[.slice A n c,.slice B m d] w (ej1 w (joins a b)):=by
 have d3:=ra.yw;have e4:=rb.yw;have U:=wx5 A n c a w o_ ra;have a0:=fun W (hb:Below w w W)=>ry5 A n c a W o_ d0 d1 hS ((ra.below hb).up hb.size);obtain⟨R,hR⟩:=n_ (joins a b);rw[<-hR];have HR:=H_ hR;have a1:=H_ U;have a2:=H_ a0;have HS:=H_ hS;clear U a0 hR hS ra;go_enter func46,ntmps46;go_wp2_with fail;refine a1.mono ?_;rintro e w1 ⟨A1,c1,rfl,a4,I⟩;have a5:=H_ a4;clear a1 a4;go_wp2_with fail;refine(a2.out _ I).mono ?_;rintro e w2 ⟨rfl,J⟩;have a6:=az I J;have a7:=own_below a5.out J;have a8:=H_ a7;clear a7 a5 I J a2;go_wp2_with fail
 go_loopw [5,17] (fun v i wr=>∃(k q:Nat) (A2:Option Addr) (c2:Nat),k<=m/\v=.slice A2 q c2/\i=.int .i64 k/\Hid (q=(joins a (b.take k)).length/\wr.ownsRow w 33 5 (.slice A2 q c2) q (itc (joins a (b.take k))))/\Below w w wr) (fun _ i _=>m - (intOf i).toNat)
 case atStart=>exact⟨0,n,A1,c1,A_ _,rfl,rfl,H_ ⟨d3.symm,a8⟩,a6⟩
 case round=>
  obtain⟨k,q,A2,c2,hk,rfl,rfl,HQ,o⟩:=hrel;clear a8 a6
  by_cases d5:k < m
  ·obtain⟨p,hl,rfl,e',c0,c1,f0,c3,c4⟩:=(rb.below o).it d5
   have a9:=iy4 (a:=a) hl;have a':=(iy2 (b.take k) HS).1;have b0:=lq3 (b.take k) a;rw[y_]at b0;have d6:=HQ.1;have b1:=own_below HQ.2 (b_ wr (.cells #[.int .i64 (b[k]).s,.int .i64 (b[k]).k,.int .u64 ((b[k]).t:Int),.int .u64 ((b[k]).v:Int),.int .i64 (b[k]).x] 33));have z:=ny5 w A2 q c2 _ b[k] _ o_ (g_ o.size s_) a' b1;rw[<-a9]at z;generalize b[k]=x at *;unfold It.val at z;have b2:=o.alloc o.size (.cells #[x.s,x.k,[x.t],[x.v],x.x] 33);have O:=H_ (d_ z b2);clear z b2 b1 a' a9 b0 d6;go_wp2_with fail;refine O.1.mono ?_;rintro e w5 ⟨k5,A5,c5,rfl,b3,b5,b6⟩;have H5:=H_ (d_ (d_ b3 b5) (O.2.trans b6));clear b3 b5 b6 O HQ;go_wp2;go_roundw
   case rel=>exact⟨k+1,k5,A5,c5,o_,rfl,by go_num,H_ H5.1,H5.2⟩
   case measure=>simp[intOf];omega
  ·have C:joins a (b.take k)=R:=by rw[i_ o_,HR.out]
   have hq:=HQ.out;rw[C]at hq;obtain⟨A3,c3,hv,Q,b8,E⟩:=ay hq.2;injection hv with e1 e2 e3;subst e1 e3;have H:Its w wr A2 q q R:=⟨Row.own hq.2,B_ _,g_ Q b8,fun p hp=>(E p hp).1⟩;have b9:=jv1 A2 q c2 wr Q;have HF:=H_ (d_ hq.1 H);have d7:=H_ b9;clear b9 H hq C E Q b8;go_wp2_with fail;refine d7.mono ?_;rintro e w6 ⟨rfl,rfl⟩;go_wp2;go_ret;exact⟨A2,q,rfl,HF.1,HF.2,o⟩
theorem yk5 (B:Option Addr) (m d:Nat) (b:List It) (w:World) (o:m<=900000) (rb:Row w w B m 5 (itc b)):Calls prog 47 #[.slice B m d] w (ej1 w (ofs b)):=by
 have hj:=uy1 none 0 0 [] B m d b w o_ l_ z_ Stt.nil Row.nil_ rb;have z:=H_ hj;clear hj;go_enter func47,ntmps47;go_wp2_with fail;refine z.mono ?_;rintro e w1 ⟨C,k,rfl,h1,h2,h3⟩;have H:=H_ (d_ h1 (d_ h2 h3));clear h1 h2 h3;go_wp2;go_ret;exact⟨C,k,rfl,H.1,H.2.1,H.2.2⟩
theorem rj1 {w:World} {vb:Nat} {x:It} (o:BoxO w 33 vb x.cells):Row w w (some ⟨vb,0,none⟩) 1 5 x.cells:=⟨rfl,fun j hj=>⟨_,rfl,o.lt,by
 rw[show ((⟨vb,0,none⟩:Addr).add j)=⟨vb,j,none⟩ by rw[Addr.add_lit,am_],o.cell];exact j_ hj⟩⟩
theorem xk2 (K:Nat) (hF:∀args w,(callFunc K args).run prog w=.ok (.enter K args) w) (I:Array Value) (P:It->Bool) (A:Option Addr) (n c:Nat) (l:List It) (w:World) (hn:n<=1000000) (hr:Row w.heap.size w A n 5 (itc l))
  (hK:∀x w1,Below w.heap.size w w1->Calls prog K (#[x.val] ++I) w1 fun e w'=>e=.returned (.bool (P x))/\Below w1.heap.size w1 w'):
  Calls prog 53 #[.slice A n c,.func (.func K) #[] I] w (ej1 w (l.filter P)):=by
 have f2:=hr.yw;obtain⟨i0,d3,d4,d5,d6⟩:=info_parts wz;have HF:=H_ hF;have HK:=H_ hK;clear hF hK;go_enter func53,ntmps53;go_wp2
 go_loopw [5,10] (fun v i wr=>∃(k q:Nat) (A2:Option Addr) (c2:Nat),k<=n/\v=.slice A2 q c2/\i=.int .i64 k/\Hid (q=((l.take k).filter P).length/\wr.ownsRow w.heap.size 33 5 (.slice A2 q c2) q (itc ((l.take k).filter P)))/\Below w.heap.size w wr) (fun _ i _=>n - (intOf i).toNat)
 case atStart=>exact⟨0,0,none,0,A_ _,rfl,rfl,H_ ⟨rfl,G_ _ _ _ _⟩,Below.refl _ _⟩
 case round=>
  obtain⟨k,q,A2,c2,hk,rfl,rfl,J,C⟩:=hrel
  by_cases d7:k < n
  ·obtain⟨p,hl,rfl,f7,c0,c1,a',c3,c4⟩:=(hr.below C).it d7
   have a1:=vv1 (P:=P) hl;have f8:q<=1000000:=by
    have h1:=J.1;have h2:=aw_ P (l.take k);rw[y_]at h2;omega
   generalize l[k]=x at *;have b5:=C.alloc C.size (.cells #[.int .i64 x.s,.int .i64 x.k,.int .u64 x.t,.int .u64 x.v,.int .i64 x.x] 33);have a2:=b_ wr (.cells #[.int .i64 x.s,.int .i64 x.k,.int .u64 x.t,.int .u64 x.v,.int .i64 x.x] 33);have a4:BoxO (wr.alloc (.cells #[.int .i64 x.s,.int .i64 x.k,.int .u64 x.t,.int .u64 x.v,.int .i64 x.x] 33)) 33 (wr:Nat) x.cells:=BoxO.new wr #[.int .i64 x.s,.int .i64 x.k,.int .u64 x.t,.int .u64 x.v,.int .i64 x.x] 33;have E:=HK.out x _ b5;unfold It.val at E;obtain⟨b,hb⟩:=n_ (P x);rw[<-hb]at E a1;have a5:=H_ E;have z:=H_ a1;clear E a1 hb;go_wp2_with fail;rw[HF.out,Oper.upon_enter];refine a5.mono ?_;rintro e w2 ⟨rfl,a6⟩;have b6:=az b5 (a6);have H:=own_below (own_below J.2 a2) a6;have o:=a4.below a6;generalize (wr:Nat)=g at *
   cases b with
   |false=>
    have H3:=H_ (d_ (show q=((l.take (k+1)).filter P).length by rw[z.out];simpa using J.out.1) (show w2.ownsRow w.heap.size 33 5 (.slice A2 q c2) q (itc ((l.take (k+1)).filter P)) by rw[z.out];simpa using H));clear a5 z J H a4 o a2 c0 c1 a' c3 c4;go_wp2;go_roundw
    case rel=>exact⟨k+1,q,A2,c2,o_,rfl,by go_num,H3,b6⟩
    case measure=>simp[intOf];omega
   |true=>
    have b0:=o.cell 0;have b1:=o.cell 1;have b2:=o.cell 2;have b3:=o.cell 3;have b4:=o.cell 4;simp only[It.cells,gE0,gE1]at b0 b1 b2 b3 b4;have b7:BoxO (w2.alloc (.cells #[.int .i64 x.s,.int .i64 x.k,.int .u64 x.t,.int .u64 x.v,.int .i64 x.x] 33)) 33 (w2:Nat) x.cells:=BoxO.new w2 #[.int .i64 x.s,.int .i64 x.k,.int .u64 x.t,.int .u64 x.v,.int .i64 x.x] 33;have a7:=b_ w2 (.cells #[.int .i64 x.s,.int .i64 x.k,.int .u64 x.t,.int .u64 x.v,.int .i64 x.x] 33);have b8:=own_below H a7;have b9:=az b6 a7;have O:=rj1 b7;have HX:=H_ (show itc ((l.take k).filter P)++x.cells=itc ((l.take (k+1)).filter P) by rw[z.out,if_pos rfl,vz];simp[itc]);have b':=H_ (show q+1=((l.take (k+1)).filter P).length by rw[z.out,if_pos rfl,e_,<-J.1];rfl);have HR:=H_ O;have HO:=H_ b8;have HB:=H_ b9;clear a5 z J H b8 a4 o a2 c0 c1 a' c3 c4 O b7 a7 b9;go_wp2_with (at_builtin;refine iq ?_);refine gz (iy rfl (.tmp 17) (.tmp 19) _ rfl w.heap.size 33 i0 _ 5 40 underlying34 d3 d4 d5 d6 rfl o_ w HB.out HB.size _ q (itc ((l.take k).filter P)) rfl HO.out (w2.alloc (.cells #[.int .i64 x.s,.int .i64 x.k,.int .u64 x.t,.int .u64 x.v,.int .i64 x.x] 33)).heap.size _ 1 1 x.cells rfl HR.out (fun v hv=>ax1 [x] v (by simpa [itc] using hv)) (q+1) _ rfl HX.out (by unfold maxLen;omega) o_ ?_);intro A3 c3 w5 h1 h2 h3 h4 h5;have H5:=H_ (d_ b'.out h1);clear h1 h3 b' HX HR HO HB b0 b1 b2 b3 b4;go_wp2;go_roundw
    case rel=>exact⟨k+1,q+1,A3,c3,o_,rfl,by go_num,H5,h2⟩
    case measure=>simp[intOf];omega
  ·have Q:l.take k=l:=i_ o_
   have hq:=J.out;rw[Q]at hq;obtain⟨A3,c3,hv,a8,d0,U⟩:=ay hq.2;injection hv with e1 e2 e3;subst e1 e3;have a0:Its w.heap.size wr A2 q q (l.filter P):=⟨Row.own hq.2,B_ _,g_ a8 d0,fun p hp=>(U p hp).1⟩;have d1:=jv1 A2 q c2 wr a8;have d2:=H_ (d_ hq.1 a0);have d':=H_ d1;clear d1 a0 hq Q U a8 d0 J;go_wp2_with fail;refine d'.mono ?_;rintro e w6 ⟨rfl,rfl⟩;go_wp2;go_ret;exact⟨A2,q,rfl,d2.1,d2.2,C⟩
theorem by4 (a:It) (v b:Nat) (w:World) (J:w.cell? b=some (.int .u64 v)):
  Calls prog 54 (#[a.val] ++#[.pointer (some b)]) w fun e w'=>e=.returned (.bool (!(a.k==1&&decide (a.v<=v))))/\Below w w w':=by
 obtain⟨O,H,t1,I,Q⟩:=a;have z:=b_ w (.cells #[O,H,[t1],[I],Q] 33);have U:∀o,(w.alloc o).cell? b=some (.int .u64 v):=fun o=>(ap_ w o _ (S_ w _ J)).trans J;obtain⟨r,C⟩:=n_ ( !(H==1&&decide (I<=v)));unfold It.val;simp only;rw[<-C]
 by_cases h1:H=1
 ·subst h1
  by_cases h2:(v:Int) < (I:Int)
  ·have E:=H_ (C.trans (show _=true by simp;omega))
   clear C;go_enter func54,ntmps54;go_wp2;go_ret;exact⟨ik E.symm,z⟩
  ·have E:=H_ (C.trans (show _=false by simp;omega))
   clear C;go_enter func54,ntmps54;go_wp2;go_ret;exact⟨ik E.symm,z⟩
 ·have e1:(H==1)=false:=by simpa using h1
  have E:=H_ (C.trans (show _=true by simp[h1]));clear C;go_enter func54,ntmps54;go_wp2;go_ret;exact⟨ik E.symm,z⟩
theorem tz2 (A:Option Addr) (n c:Nat) (l:List It) (v:Nat) (w:World) (O:n<=1000000) (C:Row w w A n 5 (itc l)):
  Calls prog 17 #[.slice A n c,[v]] w (ej1 w (rx1 l v)):=by
 have o:=b_ w (.cells #[[v]] 22);have z:=BoxO.new w #[[v]] 22;have E:=xk2 54 (fun _ _=>rfl) #[(w:Nat)] (fun a=>!(a.k==1&&decide (a.v<=v))) A n c l (w.alloc (.cells #[[v]] 22)) O ((C.below o).up o.size)
  (fun x w1 Q=>by4 x v w w1 (by rw[(z.below Q).cell];rfl))
 have I:=H_ E;unfold rx1;clear E C z;go_enter func17,ntmps17;go_wp2_with fail;refine I.mono ?_;rintro e w1 ⟨J,k,rfl,h1,h2,h3⟩;have H:=H_ (show ej1 w (l.filter fun a=>!(a.k==1&&decide (a.v<=v))) (.returned (.slice J k k)) w1 from ⟨J,k,rfl,h1,⟨h2.row,h2.nc,h2.cm,fun p U=>g_ o.size (h2.low p U)⟩,az o h3⟩);clear h1 h2 h3 I o;go_wp2;go_ret;exact H
theorem pj3 (a:It) (s:Int) (b:Nat) (w:World) (C:w.cell? b=some (.int .i64 s)):
  Calls prog 135 (#[a.val] ++#[.pointer (some b)]) w fun e w'=>e=.returned (.bool (a.s==s))/\Below w w w':=by
 have z:=b_ w (.cells #[a.s,a.k,[a.t],[a.v],a.x] 33);have E:∀o,(w.alloc o).cell? b=some (.int .i64 s):=fun o=>(ap_ w o _ (S_ w _ C)).trans C;unfold It.val;go_enter func135,ntmps135;go_wp2;go_ret;exact⟨rfl,z⟩
theorem ry3 (A:Option Addr) (n c:Nat) (l:List It) (s:Int) (w:World) (O:n<=1000000) (C:Row w w A n 5 (itc l)):
  Calls prog 68 #[.slice A n c,s] w (ej1 w (l.filter fun a=>a.s==s)):=by
 have o:=b_ w (.cells #[s] 3);have z:=BoxO.new w #[s] 3;have E:=xk2 135 (fun _ _=>rfl) #[(w:Nat)] (fun a=>a.s==s) A n c l (w.alloc (.cells #[s] 3)) O ((C.below o).up o.size)
  (fun x w1 Q=>pj3 x s w w1 (by rw[(z.below Q).cell];rfl))
 have I:=H_ E;clear E C z;go_enter func68,ntmps68;go_wp2_with fail;refine I.mono ?_;rintro e w1 ⟨J,k,rfl,h1,h2,h3⟩;have H:=H_ (show ej1 w (l.filter fun a=>a.s==s) (.returned (.slice J k k)) w1 from ⟨J,k,rfl,h1,⟨h2.row,h2.nc,h2.cm,fun p U=>g_ o.size (h2.low p U)⟩,az o h3⟩);clear h1 h2 h3 I o;go_wp2;go_ret;exact H
section
end
section
theorem ay6 (x y:It) (w:World):(binOp .neq 33 (.agg #[x.s,x.k,[x.t],[x.v],x.x]) (.agg #[y.s,y.k,[y.t],[y.v],y.x])).run prog w=.ok (.bool (!decide (x=y))) w:=by
 have C:=underlying3;have a3:=Tryz.isAgg3;have E:=Tryz.sizeOf3;have H:=underlying22;have I:=Tryz.isAgg22;have J:=Tryz.sizeOf22;have u5:=underlying2;have O:=Tryz.isAgg2;have Q:=Tryz.sizeOf2;have o:prog.underlying 33=some (.struct (prog.fieldsOf 33)):=by kernel_rfl
 have z:prog.stoodInHeld 33=false:=by kernel_rfl
 rw[run_neq_struct,show (10000:Nat)=9999+1 from rfl,run_equalIn_agg w 9999 33 _ _ o z];simp only[Program.fieldsOf,underlying33];go_simp;have e:decide (x=y)=(decide (x.s=y.s) &&(decide (x.k=y.k) &&(decide (x.t=y.t) &&(decide (x.v=y.v) &&decide (x.x=y.x))))):=by
  rw[<-bn_,<-bn_,<-bn_,<-bn_];exact decide_eq_decide.2 ⟨fun h=>by subst h;simp,fun⟨h1,h2,h3,h4,h5⟩=>It.ext h1 h2 h3 h4 h5⟩
 rw[e]
 by_cases h1:x.s=y.s<;>by_cases h2:x.k=y.k<;>by_cases h3:x.t=y.t<;>by_cases h4:x.v=y.v<;>by_cases h5:x.x=y.x<;>simp[h1,h2,h3,h4,h5] <;>omega
theorem ey6 {x y:It} (h:x≠y) {α:Type} (A B:α):(if x.s=y.s then if x.k=y.k then if (x.t:Int)=(y.t:Int) then if (x.v:Int)=(y.v:Int) then if x.x=y.x then A else B else B else B else B else B)=B:=by
 by_cases h1:x.s=y.s
 ·by_cases h2:x.k=y.k
  ·by_cases h3:(x.t:Int)=(y.t:Int)
   ·by_cases h4:(x.v:Int)=(y.v:Int)
    ·by_cases h5:x.x=y.x
     ·exact absurd (It.ext h1 h2 o_ o_ h5) h
     ·rw[if_pos h1,if_pos h2,if_pos h3,if_pos h4,if_neg h5]
    ·rw[if_pos h1,if_pos h2,if_pos h3,if_neg h4]
   ·rw[if_pos h1,if_pos h2,if_neg h3]
  ·rw[if_pos h1,if_neg h2]
 ·rw[if_neg h1]
def sq1 (w:World) (R:List It) (e:Ending) (w':World):Prop:=∃A' k c',e=.returned (.slice A' k c')/\k=R.length/\Its w w' A' k c' R/\Below w w w'
def uj5 (w:World) (R:List It×Nat) (e:Ending) (w':World):Prop:=∃A' k c',e=.returned (.tuple #[.slice A' k c',(R.2:Int)])/\k=R.1.length/\Its w w' A' k c' R.1/\Below w w w'
theorem Its.nil (B:Nat) (w:World):Its B w none 0 0 []:=⟨⟨rfl,fun j hj=>by simp[itc]at hj⟩,B_ _,by unfold maxLen;omega,fun a o=>by cases o⟩
theorem gw3 (A:Option Addr) (N c:Nat) (b:List UInt8) (w:World) (hN:N<=1000000) (j':N<=c) (k0:c<=maxLen) (hr:Row w w A N 1 (bts b)):
  Calls prog 155 #[.slice A N c] w (uj5 w (It.read b)):=by
 obtain⟨i0,f6,f7,f8,f9⟩:=info_parts wz;have k2:=hr.xk;have a1:=take_any A N c b w o_ hr;have a2:=Pn.take_size (l:=b);have z:=It.vy5 b;obtain⟨R,hR⟩:=n_ (It.read b);rw[<-hR]at z ⊢;obtain⟨n,hn⟩:=n_ ((Pn.take b).1);obtain⟨sz,J⟩:=n_ ((Pn.take b).2.1);obtain⟨er,a5⟩:=n_ ((Pn.take b).2.2);rw[<-hn,<-J,<-a5]at a1;rw[<-hn,<-J,<-a5]at z;rw[<-a5,<-J]at a2;clear hR hn J a5;have O:=H_ a1
 by_cases he:er=0
 ·subst he
  have d2:=a2 rfl;rw[if_pos rfl]at z
  by_cases d3:2000 < n
  ·rw[if_pos d3]at z
   have d4:(2000:Int) < (n:Int):=o_
   have I:=H_ z;clear a1 z a2 hr;go_enter func155,ntmps155;go_wp2_with fail;refine O.mono ?_;rintro e w1 ⟨rfl,a4⟩;subst a4;clear O;go_wp2;refine bodyPost_ret (v:=.tuple #[.slice none 0 0,.int .i64 2]) (by simp[results,go_sem]) rfl ⟨none,0,0,by rw[I.out];rfl,by rw[I.out];rfl,by rw[I.out];exact Its.nil _ _,Below.refl _ _⟩
  ·rw[if_neg d3]at z
   have d4:((2000:Int) < (n:Int))=False:=eq_false o_;obtain⟨A2,g8⟩:∃A2,(if c=sz then A else Option.map (fun x=>x.add sz) A)=A2:=⟨_,rfl⟩;have d5:=lx1 hr (s:=sz) o_ (A':=A2) (fun k3=>by rw[<-g8,if_neg o_]);have j0:sz<=N:=o_
   have g':(sz:Int)<=(N:Int):=o_
   have j2:sz<=c:=o_
   have h0:(sz:Int)<=(c:Int):=o_
   have I:=H_ z;have h8:=H_ d5;clear a1 z a2 hr d5 d2;go_enter func155,ntmps155;go_wp2_with fail;refine O.mono ?_;rintro e w1 ⟨rfl,a4⟩;subst a4;clear O;go_wp2_with fail
   go_loopw [0,7,28] (fun bv o i wr=>∃(k m:Nat) (A3:Option Addr) (c3:Nat) (r:List UInt8) (out:List It) (A4:Option Addr) (c4:Nat),k<=n/\bv=.slice A3 m c3/\o=.slice A4 k c4/\i=.int .u64 k/\Hid (It.takes n (b.drop sz) []=It.takes (n - k) r out/\out.length=k/\Row w wr A3 m 1 (bts r)/\m<=c3/\c3<=maxLen/\m<=N/\wr.ownsRow w 33 5 (.slice A4 k c4) k (itc out))/\Below w w wr) (fun _ _ i _=>n - (intOf i).toNat)
   case atStart=>exact⟨0,N - sz,A2,c - sz,b.drop sz,[],none,0,A_ _,rfl,rfl,rfl,H_ ⟨rfl,rfl,h8,o_,by unfold maxLen at *;omega,o_,G_ _ _ _ _⟩,Below.refl _ _⟩
   case round=>
    obtain⟨k,m,A3,c3,r,out,A4,c4,k4,rfl,rfl,rfl,HK,H⟩:=hrel
    by_cases hk:k < n
    ·have h9:(k:Int) < (n:Int):=o_
     have k5:IntKind.u64.wrap ((k:Int)+1)=((k+1:Nat):Int):=by rw[IntKind.wrap_u64];omega
     obtain⟨h1,h2,h3,h4,h5,h6,h7⟩:=HK.out;have d6:=one_any A3 m c3 r wr o_ h4 h5 w H.size h3;rw[show n - k=(n - (k+1))+1 by omega,It.bv4]at h1;have d7:=fun w'=>own_below (w':=w') h7;generalize It.take1 r=Q at *;obtain⟨x,r2,er⟩:=Q;simp only at h1;have d8:=H_ d6;have H1:=H_ h1;have d9:=H_ d7;clear d6 h1 h3 h7 d7;go_wp2_with fail;refine d8.mono ?_;rintro e w2 ⟨A5,m5,c5,rfl,z1,z5,z2,z3,z4⟩;have b8:=d9.out _ z4;have E:=H.trans (z4.mono H.size)
     by_cases he:er=0
     ·subst he
      have h1:=H1.out;rw[if_pos rfl]at h1;have e0:=z4.mono H.size;have e4:=e0.alloc E.size (.cells #[x.s,x.k,[x.t],[x.v],x.x] 33);have e5:=b8.alloc (.cells #[x.s,x.k,[x.t],[x.v],x.x] 33);have U:BoxO (w2.alloc (.cells #[x.s,x.k,[x.t],[x.v],x.x] 33)) 33 (w2:Nat) x.cells:=BoxO.new w2 #[x.s,x.k,[x.t],[x.v],x.x] 33;have b0:=U.cell 0;have b1:=U.cell 1;have b2:=U.cell 2;have b3:=U.cell 3;have b4:=U.cell 4;simp only[It.cells,gE0,gE1]at b0 b1 b2 b3 b4;have a8:(w2.alloc (.cells #[x.s,x.k,[x.t],[x.v],x.x] 33)).heap.size=(w2:Nat)+1:=by simp
      have e6:=e4.alloc (by have:=E.size;omega) (.cells #[x.s,x.k,[x.t],[x.v],x.x] 33);have e7:=e5.alloc (.cells #[x.s,x.k,[x.t],[x.v],x.x] 33);have e9:BoxO ((w2.alloc (.cells #[x.s,x.k,[x.t],[x.v],x.x] 33)).alloc (.cells #[x.s,x.k,[x.t],[x.v],x.x] 33)) 33 ((w2:Nat)+1) x.cells:=by rw[<-a8];exact BoxO.new _ #[x.s,x.k,[x.t],[x.v],x.x] 33
      have a9:((w2.alloc (.cells #[x.s,x.k,[x.t],[x.v],x.x] 33)).alloc (.cells #[x.s,x.k,[x.t],[x.v],x.x] 33)).heap.size=(w2:Nat)+1+1:=by simp
      have HR:=H_ (rj1 e9);have HO:=H_ e7;have HB:=H_ e6;have k':=H_ (d_ a9 E.size);have HZ:=H_ (d_ z1 (d_ z2 h1));have a':itc out++x.cells=itc (out++[x]):=by simp[itc]
      have HX:=H_ a';have l2:k<=2000:=o_
      have H2:=H_ h2;clear e0 e4 e5 U e6 e7 e9 a8 a9 b8 E z1 z4 h1 a' H1 d9 h2;unfold It.val;go_wp2_with (at_builtin;refine iq ?_);refine gz (iy rfl (.tmp 39) (.tmp 41) _ rfl (w:Nat) 33 i0 _ 5 40 underlying34 f6 f7 f8 f9 rfl o_ wr HB.out (g_ H.size HB.size) _ k (itc out) rfl HO.out _ _ 1 1 x.cells rfl HR.out (fun v hv=>ax1 [x] v (by simpa [itc] using hv)) (k+1) _ rfl HX.out (by unfold maxLen;omega) o_ ?_);intro A6 c6 w5 q1 q2 q3 q4 q5;have HF:=H_ (d_ q1 (HZ.1.below q2));have i7:=H.trans q2;clear q1 q2 q3 HR HO HB b0 b1 b2 b3 b4;go_wp2;go_roundw
      case rel=>exact⟨k+1,m5,A5,c5,r2,out++[x],A6,c6,o_,rfl,rfl,by go_num,H_ ⟨HZ.2.2,by rw[e_,H2.out];rfl,HF.2,HZ.2.1,o_,o_,HF.1⟩,i7⟩
      case measure=>simp[intOf];omega
     ·have h1:=H1.out
      rw[if_neg he]at h1;have i8:((er:Int)==0)=false:=by simp;omega
      have hR:R=([],er):=by
       have:=I.out;rw[h1]at this;rw[this,if_neg he]
      have C:=H_ hR;clear h1 z1 z4 b8 hR d8;unfold It.val;go_wp2;refine bodyPost_ret (v:=.tuple #[.slice none 0 0,(er:Int)]) (by simp[results,go_sem]) rfl ⟨none,0,0,by rw[C.out],by rw[C.out];rfl,by rw[C.out];exact Its.nil _ _,?_⟩;exact E.alloc E.size _
    ·obtain rfl:k=n:=o_
     have h9:((k:Int) < (k:Int))=False:=eq_false o_;obtain⟨h1,h2,h3,h4,h5,h6,h7⟩:=HK.out;rw[by_]at h1;have z:R=if r=[]/\out.all It.ok=true then (out,0) else ([],3):=by
      have:=I.out;rw[h1]at this;exact this
     have e':=h3.xk
     by_cases hm:0 < m
     ·have i9:(0:Int) < (m:Int):=o_
      rw[if_neg (fun h=>by rw[h.1]at e';simp at e';omega)]at z;have C:=H_ z;clear h1 z h3 h7;go_wp2;refine bodyPost_ret (v:=.tuple #[.slice none 0 0,.int .i64 3]) (by simp[results,go_sem]) rfl ⟨none,0,0,by rw[C.out];rfl,by rw[C.out];rfl,by rw[C.out];exact Its.nil _ _,H⟩
     ·have i9:((0:Int) < (m:Int))=False:=eq_false o_
      have i':r=[]:=ae_.1 o_;have b9:=wj1 A4 k c4 out wr o_ (Row.own h7);obtain⟨ab,f0⟩:=n_ (out.all It.ok);rw[<-f0]at b9 z;simp only[i',true_and]at z;have a6:=H_ b9;obtain⟨A5,c5,hv,f1,f2,b5⟩:=ay h7;injection hv with e1 e2 e3;subst e1 e3;have f3:=fun w'=>own_below (w':=w') h7;have H7:=H_ (d_ f3 (d_ f1 (d_ f2 b5)));have H2:=H_ h2;clear h1 h3 h7 f3 b9 f0 b5 f1 f2 h2
      cases ab with
      |true=>
       rw[if_pos rfl]at z;have C:=H_ z;clear z;go_wp2_with fail;refine a6.mono ?_;rintro e w2 ⟨rfl,E⟩;have b6:Its w w2 A4 k c4 out:=⟨Row.own (H7.1 _ E),H7.2.1,H7.2.2.1,fun p hp=>(H7.2.2.2 p hp).1⟩;have HI:=H_ (d_ b6 (H.trans (E.mono H.size)));clear b6 E a6 H7;go_wp2;refine bodyPost_ret (v:=.tuple #[.slice A4 k c4,.int .i64 0]) (by simp[results,go_sem]) rfl ⟨A4,k,c4,by rw[C.out];rfl,by rw[C.out];exact H2.symm,by rw[C.out];exact HI.1,HI.2⟩
      |false=>
       rw[if_neg s_]at z;have C:=H_ z;clear z;go_wp2_with fail;refine a6.mono ?_;rintro e w2 ⟨rfl,E⟩;have HI:=H_ (H.trans (E.mono H.size));clear E a6 H7;go_wp2;refine bodyPost_ret (v:=.tuple #[.slice none 0 0,.int .i64 3]) (by simp[results,go_sem]) rfl ⟨none,0,0,by rw[C.out];rfl,by rw[C.out];rfl,by rw[C.out];exact Its.nil _ _,HI⟩
 ·rw[if_neg he]at z
  have i8:((er:Int)==0)=false:=by simp;omega
  have I:=H_ z;clear a1 z a2 hr;go_enter func155,ntmps155;go_wp2_with fail;refine O.mono ?_;rintro e w1 ⟨rfl,a4⟩;subst a4;clear O;go_wp2;refine bodyPost_ret (v:=.tuple #[.slice none 0 0,(er:Int)]) (by simp[results,go_sem]) rfl ⟨none,0,0,by rw[I.out],by rw[I.out];rfl,by rw[I.out];exact Its.nil _ _,Below.refl _ _⟩
theorem Fr.wk4 (l:List UInt8) (p:Nat):(Fr.take l p).2.2.2≠1/\(Fr.take l p).2.1.length<=l.length:=by
 unfold Fr.take;split
 ·simp
 ·split
  ·simp
  ·split
   ·simp
   ·split
    ·simp
    ·split
     ·simp
     ·refine⟨by simp,?_⟩
      simp only[y_,I_];omega
theorem oq4 (a:It) (w:World):Calls prog 255 #[a.val] w fun e w'=>e=.returned (.bool (!a.ok))/\Below w w w':=by
 have o:=fun W=>tz1 a W;unfold It.val at o ⊢;go_enter func255,ntmps255;go_wp2_with fail;refine(o _).mono ?_;rintro e w1 ⟨rfl,z⟩;go_wp2;go_ret;exact⟨rfl,az (b_ _ _) z⟩
theorem vv3 (A:Option Addr) (n c:Nat) (l:List It) (w:World) (hn:n<=1000000) (I:Row w w A n 5 (itc l)):
  Calls prog 212 #[.slice A n c] w fun e w'=>e=.returned (.bool (Tb.may l))/\Below w w w':=by
 have J:=I.yw;have z:=oq2 A n c l w hn I;have o:=fun(W:World) (hb:Below w w W)=>vw1 255 (fun _ _=>rfl) #[] (fun x=>!x.ok) A n c l W hn ((I.below hb).up hb.size) (fun x w1 _=>oq4 x w1);simp only[wj2]at o;obtain⟨rb,C⟩:=n_ (decide (yj l));obtain⟨ab,E⟩:=n_ (l.all It.ok);have hm:Tb.may l=(decide (0 < n) &&rb&&ab):=by
  unfold Tb.may;rw[C,E]
  congr 2
  rw[decide_eq_decide,<-J,bu_]
 rw[<-C]at z;rw[<-E]at o;rw[hm];have O:=H_ z;have Q:=H_ o;clear z o hm I C E
 by_cases h0:0 < n
 ·have U:(0:Int) < (n:Int):=o_
  have hd:decide (0 < n)=true:=decide_eq_true h0;rw[hd];go_enter func212,ntmps212;go_wp2_with fail;refine O.mono ?_;rintro e w1 ⟨rfl,H⟩
  cases rb with
  |false=>
   go_wp2;go_ret;exact⟨rfl,H⟩
  |true=>
   go_wp2_with fail;refine(Q.out _ H).mono ?_;rintro e w2 ⟨rfl,a0⟩;have a1:=az H a0;go_wp2;go_ret;exact⟨ik s_,a1⟩
 ·have U:((0:Int) < (n:Int))=False:=eq_false o_
  have hd:decide (0 < n)=false:=decide_eq_false h0;rw[hd];go_enter func212,ntmps212;go_wp2;go_ret;exact⟨rfl,Below.refl _ _⟩
theorem nq5 (A:Option Addr) (N c:Nat) (b:List UInt8) (L:Option Addr) (m d:Nat) (l:List It) (w:World) (hN:N<=1000000) (a6:N<=c) (a7:c<=maxLen) (hm:m<=100) (hr:Row w w A N 1 (bts b)) (hq:Row w w L m 5 (itc l)) (o:Tb.may l=true) (hf:∀x∈l,x.fit):
  Calls prog 217 #[.slice A N c,.slice L m d] w fun e w'=>∃A' M c',e=.returned (.tuple #[.slice A' M c',.int .i64 0])/\
   w'.ownsRow w 5 1 (.slice A' M c') M (bts (b++Fr.put 2 (It.bytes l)))/\M<=c'/\c'<=maxLen/\Below w w w':=by
 have b':=hq.yw;have C:=vv3 L m d l w o_ hq;rw[o]at C;have I:∀x∈l,x.ok=true/\x.fit:=fun x hx=>by
  simp only[Tb.may,N_,Y_]at o;exact⟨o.2 x hx,hf x hx⟩
 have E:=fun(W:World) (hb:Below w w W)=>zz1 none 0 0 [] L m d l W o_ o_ Row.nil_ ((hq.below hb).up hb.size) I;simp only[D_]at E;have c9:=It.aq1 l;have d0:((100:Int) < (m:Int))=False:=eq_false o_;have J:=H_ C;have O:=H_ E;clear C E hq I o hf;go_enter func217,ntmps217;go_wp2_with fail;refine J.mono ?_;rintro e w1 ⟨rfl,Q⟩;go_wp2_with fail;refine(O.out _ Q).mono ?_;rintro e w2 ⟨A1,M1,c1,rfl,H,a8,a9,a'⟩;have b0:M1=(It.bytes l).length:=by
  have:=H.1;rw[uq]at this;omega
 have z:=az Q a';have U:=lv1 A N c b 2 A1 M1 c1 (It.bytes l) w2 o_ a6 a7 ((hr.below z).up z.size) o_ o_ o_ a8 a9 (Row.own H);have a0:=H_ U;clear U H O J b0 hr;go_wp2_with fail;refine a0.mono ?_;rintro e w3 ⟨A2,M2,c2,rfl,a1,b1,b2,b3⟩;have a2:=own_base a1 z.size;have a4:=az z b3;have HF:=H_ (d_ a2 (d_ b1 (d_ b2 a4)));clear a1 a2 a4 a0;go_wp2;go_ret2;exact⟨A2,M2,c2,rfl,HF⟩
def fk1 (b:List UInt8) (p:Nat):List It×Nat×Nat:=
 if (Fr.take b p).2.2.2=0/\(Fr.take b p).1=2/\(It.read (Fr.take b p).2.1).2=0/\(It.read (Fr.take b p).2.1).1.length<=100/\Tb.may (It.read (Fr.take b p).2.1).1=true then
  ((It.read (Fr.take b p).2.1).1,(Fr.take b p).2.2.1,0) else ([],0,9)
def nz3 (w:World) (R:List It×Nat×Nat) (e:Ending) (w':World):Prop:=∃A' k c',e=.returned (.tuple #[.slice A' k c',(R.2.1:Int),(R.2.2:Int)])/\k=R.1.length/\Its w w' A' k c' R.1/\Below w w w'
theorem pz4 (A:Option Addr) (N c:Nat) (b:List UInt8) (p:Nat) (w:World) (hN:N<=1000000) (d':N<=c) (e0:c<=maxLen) (hr:Row w w A N 1 (bts b)) (hp:p<=N):
  Calls prog 158 #[.slice A N c,(p:Int)] w (nz3 w (fk1 b p)):=by
 have f5:=hr.xk;have a':=jk2 A N c b p w o_ d' e0 hr hp;obtain⟨e2,e3⟩:=Fr.wk4 b p;obtain⟨R,hR⟩:=n_ (fk1 b p);rw[<-hR];unfold fk1 at hR;generalize Fr.take b p=T at *;obtain⟨kd,body,nx,er⟩:=T;simp only at a' e2 e3 hR;have a5:∀w',Below w w w'->R=([],0,9)->nz3 w R (.returned (.tuple #[.slice none 0 0,.int .i64 0,.int .i64 9])) w':=fun w' hb e=>by
  rw[e];exact⟨none,0,0,rfl,rfl,Its.nil _ _,hb⟩
 have J:=H_ a';have HR:=H_ hR;have C:=H_ a5;have f7:((er:Int)==1)=false:=by simp;omega
 clear a' hR a5 hr
 by_cases he:er=0
 ·by_cases hk:kd=2
  ·subst he hk
   have a2:=HR.out;have f8:body.length<=1000000:=o_
   obtain⟨Q,hQ⟩:=n_ (It.read body);rw[<-hQ]at a2;obtain⟨q,qe⟩:=Q;simp only[true_and]at a2;have b0:=fun(A1:Option Addr) (M1 c1:Nat) (W:World) h1 h2 h3 h4=>gw3 A1 M1 c1 body W h1 h2 h3 h4;simp only[<-hQ]at b0;have d0:=H_ b0;have a4:=H_ a2;clear a2 b0 hQ HR;go_enter func158,ntmps158;go_wp2_with fail;refine J.mono ?_;rintro e w1 ⟨A1,M1,c1,rfl,E,b1,b2,H⟩;have e7:M1=body.length:=by
    have:=E.1;rw[uq]at this;omega
   have a6:=d0.out A1 M1 c1 w1 o_ b1 b2 (Row.own E);have d1:=H_ a6;clear a6 E J d0 e7;go_wp2_with fail;refine d1.mono ?_;rintro e w2 ⟨A2,k,c2,rfl,O,z,d2⟩;simp only at O z;have a7:=az H d2;have a8:Its w w2 A2 k c2 q:=⟨z.row,z.nc,z.cm,fun a ha=>g_ H.size (z.low a ha)⟩;have HL:=H_ a8;have b3:=H_ O;have U:=H_ a7;clear z d2 a7 d1 a8 H
   by_cases d4:qe=0
   ·subst d4
    by_cases d5:k<=100
    ·have d6:((100:Int) < (k:Int))=False:=eq_false o_
     have b5:=vv3 A2 k c2 q w2 o_ HL.row;obtain⟨mb,b6⟩:=n_ (Tb.may q);rw[<-b6]at b5;have b7:=H_ b5;have d7:=H_ b6;clear b5 O b6;go_wp2_with fail;refine b7.mono ?_;rintro e w3 ⟨rfl,a0⟩;have I:=az U.out a0
     cases mb with
     |true=>
      have o:R=(q,nx,0):=by rw[a4.out,if_pos ⟨trivial,by rw[<-b3.out];exact d5,d7.symm⟩]
      have a9:Its w w3 A2 k c2 q:=⟨(HL.row.below a0).up a0.size,HL.nc,HL.cm,HL.low⟩;have HF:=H_ (show nz3 w R (.returned (.tuple #[.slice A2 k c2,(nx:Int),.int .i64 0])) w3 from by rw[o];exact⟨A2,k,c2,rfl,b3,a9,I⟩);clear o a9 I a0 b7;go_wp2;refine bodyPost_ret (v:=.tuple #[.slice A2 k c2,(nx:Int),.int .i64 0]) (by simp[results,go_sem]) rfl HF
     |false=>
      have o:R=([],0,9):=by rw[a4.out,if_neg (by rw[<-d7.out];simp)]
      have HF:=H_ (C.out w3 I o);clear o I a0 b7;go_wp2;refine bodyPost_ret (v:=.tuple #[.slice none 0 0,.int .i64 0,.int .i64 9]) (by simp[results,go_sem]) rfl HF
    ·have d6:(100:Int) < (k:Int):=o_
     have o:R=([],0,9):=by rw[a4.out,if_neg (by rw[<-b3.out];exact fun h=>d5 h.2.1)]
     have HF:=H_ (C.out w2 U.out o);clear o O;go_wp2;refine bodyPost_ret (v:=.tuple #[.slice none 0 0,.int .i64 0,.int .i64 9]) (by simp[results,go_sem]) rfl HF
   ·have f3:((qe:Int)==0)=false:=by simp;omega
    have o:R=([],0,9):=by rw[a4.out,if_neg (fun h=>d4 h.1)]
    have HF:=H_ (C.out w2 U.out o);clear o O;go_wp2;refine bodyPost_ret (v:=.tuple #[.slice none 0 0,.int .i64 0,.int .i64 9]) (by simp[results,go_sem]) rfl HF
  ·have g8:((kd:Int)==2)=false:=by simp;omega
   subst he;have a1:R=([],0,9):=by rw[HR.out,if_neg (by simp[hk])]
   have H9:=H_ a1;clear a1;go_enter func158,ntmps158;go_wp2_with fail;refine J.mono ?_;rintro e w1 ⟨A1,M1,c1,rfl,E,b1,b2,H⟩;clear E J;go_wp2;refine bodyPost_ret (v:=.tuple #[.slice none 0 0,.int .i64 0,.int .i64 9]) (by simp[results,go_sem]) rfl (C.out _ H H9)
 ·have g':((er:Int)==0)=false:=by simp;omega
  have a1:R=([],0,9):=by rw[HR.out,if_neg (by simp[he])]
  have H9:=H_ a1;clear a1;go_enter func158,ntmps158;go_wp2_with fail;refine J.mono ?_;rintro e w1 ⟨A1,M1,c1,rfl,E,b1,b2,H⟩;clear E J;go_wp2;refine bodyPost_ret (v:=.tuple #[.slice none 0 0,.int .i64 0,.int .i64 9]) (by simp[results,go_sem]) rfl (C.out _ H H9)
theorem keep_any (K:Nat) (hF:∀args w,(callFunc K args).run prog w=.ok (.enter K args) w) (I:Array Value) (P:It->Bool) (A:Option Addr) (n c:Nat) (l:List It) (w:World) (hn:n<=1000000) (hr:Row w.heap.size w A n 5 (itc l))
  (hK:∀x w1,Below w.heap.size w w1->Calls prog K (#[x.val] ++I) w1 fun e w'=>e=.returned (.bool (P x))/\Below w1.heap.size w1 w'):
  Calls prog 117 #[.slice A n c,.func (.func K) #[] I] w (sq1 w (l.filter P)):=by
 have f0:=hr.yw;obtain⟨i0,d2,d3,d4,d5⟩:=info_parts wz;have HF:=H_ hF;have HK:=H_ hK;clear hF hK;go_enter func117,ntmps117;go_wp2
 go_loopw [5,10] (fun v i wr=>∃(k q:Nat) (A2:Option Addr) (c2:Nat),k<=n/\v=.slice A2 q c2/\i=.int .i64 k/\Hid (q=((l.take k).filter P).length/\wr.ownsRow w.heap.size 33 5 (.slice A2 q c2) q (itc ((l.take k).filter P)))/\Below w.heap.size w wr) (fun _ i _=>n - (intOf i).toNat)
 case atStart=>exact⟨0,0,none,0,A_ _,rfl,rfl,H_ ⟨rfl,G_ _ _ _ _⟩,Below.refl _ _⟩
 case round=>
  obtain⟨k,q,A2,c2,hk,rfl,rfl,J,C⟩:=hrel
  by_cases d6:k < n
  ·obtain⟨p,hl,rfl,f5,c0,c1,a9,c3,c4⟩:=(hr.below C).it d6
   have a1:=vv1 (P:=P) hl;have f6:q<=1000000:=by
    have h1:=J.1;have h2:=aw_ P (l.take k);rw[y_]at h2;omega
   generalize l[k]=x at *;have a':=C.alloc C.size (.cells #[.int .i64 x.s,.int .i64 x.k,.int .u64 x.t,.int .u64 x.v,.int .i64 x.x] 33);have a2:=b_ wr (.cells #[.int .i64 x.s,.int .i64 x.k,.int .u64 x.t,.int .u64 x.v,.int .i64 x.x] 33);have a4:BoxO (wr.alloc (.cells #[.int .i64 x.s,.int .i64 x.k,.int .u64 x.t,.int .u64 x.v,.int .i64 x.x] 33)) 33 (wr:Nat) x.cells:=BoxO.new wr #[.int .i64 x.s,.int .i64 x.k,.int .u64 x.t,.int .u64 x.v,.int .i64 x.x] 33;have E:=HK.out x _ a';unfold It.val at E;obtain⟨b,hb⟩:=n_ (P x);rw[<-hb]at E a1;have a5:=H_ E;have z:=H_ a1;clear E a1 hb;go_wp2_with fail;rw[HF.out,Oper.upon_enter];refine a5.mono ?_;rintro e w2 ⟨rfl,a6⟩;have b5:=az a' (a6);have H:=own_below (own_below J.2 a2) a6;have o:=a4.below a6;generalize (wr:Nat)=g at *
   cases b with
   |false=>
    have H3:=H_ (d_ (show q=((l.take (k+1)).filter P).length by rw[z.out];simpa using J.out.1) (show w2.ownsRow w.heap.size 33 5 (.slice A2 q c2) q (itc ((l.take (k+1)).filter P)) by rw[z.out];simpa using H));clear a5 z J H a4 o a2 c0 c1 a9 c3 c4;go_wp2;go_roundw
    case rel=>exact⟨k+1,q,A2,c2,o_,rfl,by go_num,H3,b5⟩
    case measure=>simp[intOf];omega
   |true=>
    have b0:=o.cell 0;have b1:=o.cell 1;have b2:=o.cell 2;have b3:=o.cell 3;have b4:=o.cell 4;simp only[It.cells,gE0,gE1]at b0 b1 b2 b3 b4;have b6:BoxO (w2.alloc (.cells #[.int .i64 x.s,.int .i64 x.k,.int .u64 x.t,.int .u64 x.v,.int .i64 x.x] 33)) 33 (w2:Nat) x.cells:=BoxO.new w2 #[.int .i64 x.s,.int .i64 x.k,.int .u64 x.t,.int .u64 x.v,.int .i64 x.x] 33;have a7:=b_ w2 (.cells #[.int .i64 x.s,.int .i64 x.k,.int .u64 x.t,.int .u64 x.v,.int .i64 x.x] 33);have b7:=own_below H a7;have b8:=az b5 a7;have O:=rj1 b6;have HX:=H_ (show itc ((l.take k).filter P)++x.cells=itc ((l.take (k+1)).filter P) by rw[z.out,if_pos rfl,vz];simp[itc]);have b9:=H_ (show q+1=((l.take (k+1)).filter P).length by rw[z.out,if_pos rfl,e_,<-J.1];rfl);have HR:=H_ O;have HO:=H_ b7;have HB:=H_ b8;clear a5 z J H b7 a4 o a2 c0 c1 a9 c3 c4 O b6 a7 b8;go_wp2_with (at_builtin;refine iq ?_);refine gz (iy rfl (.tmp 17) (.tmp 19) _ rfl w.heap.size 33 i0 _ 5 40 underlying34 d2 d3 d4 d5 rfl o_ w HB.out HB.size _ q (itc ((l.take k).filter P)) rfl HO.out (w2.alloc (.cells #[.int .i64 x.s,.int .i64 x.k,.int .u64 x.t,.int .u64 x.v,.int .i64 x.x] 33)).heap.size _ 1 1 x.cells rfl HR.out (fun v hv=>ax1 [x] v (by simpa [itc] using hv)) (q+1) _ rfl HX.out (by unfold maxLen;omega) o_ ?_);intro A3 c3 w5 h1 h2 h3 h4 h5;have H5:=H_ (d_ b9.out h1);clear h1 h3 b9 HX HR HO HB b0 b1 b2 b3 b4;go_wp2;go_roundw
    case rel=>exact⟨k+1,q+1,A3,c3,o_,rfl,by go_num,H5,h2⟩
    case measure=>simp[intOf];omega
  ·have Q:l.take k=l:=i_ o_
   have hq:=J.out;rw[Q]at hq;obtain⟨A3,c3,hv,c9,d0,U⟩:=ay hq.2;injection hv with e1 e2 e3;subst e1 e3;have a0:Its w.heap.size wr A2 q c2 (l.filter P):=⟨Row.own hq.2,c9,d0,fun p hp=>(U p hp).1⟩;have d1:=H_ (d_ hq.1 a0);clear a0 hq Q U c9 d0 J;go_wp2;go_ret;exact⟨A2,q,c2,rfl,d1.1,d1.2,C⟩
theorem fz5 (x y:It) (w:World):(Op.equal 33 (.agg #[x.s,x.k,[x.t],[x.v],x.x]) (.agg #[y.s,y.k,[y.t],[y.v],y.x])).run prog w=.ok (decide (x=y)) w:=by
 have E:=underlying3;have a3:=Tryz.isAgg3;have H:=Tryz.sizeOf3;have I:=underlying22;have J:=Tryz.isAgg22;have O:=Tryz.sizeOf22;have u5:=underlying2;have Q:=Tryz.isAgg2;have U:=Tryz.sizeOf2;have o:prog.underlying 33=some (.struct (prog.fieldsOf 33)):=by kernel_rfl
 have z:prog.stoodInHeld 33=false:=by kernel_rfl
 have C:(Op.equal 33 (.agg #[x.s,x.k,[x.t],[x.v],x.x]) (.agg #[y.s,y.k,[y.t],[y.v],y.x])).run prog w=(Op.equalIn 10000 33 (.agg #[x.s,x.k,[x.t],[x.v],x.x]) (.agg #[y.s,y.k,[y.t],[y.v],y.x])).run prog w:=by simp only[Op.equal,Op.maxDepth]
 rw[C,show (10000:Nat)=9999+1 from rfl,run_equalIn_agg w 9999 33 _ _ o z];simp only[Program.fieldsOf,underlying33];go_simp;have e:decide (x=y)=(decide (x.s=y.s) &&(decide (x.k=y.k) &&(decide (x.t=y.t) &&(decide (x.v=y.v) &&decide (x.x=y.x))))):=by
  rw[<-bn_,<-bn_,<-bn_,<-bn_];exact decide_eq_decide.2 ⟨fun h=>by subst h;simp,fun⟨h1,h2,h3,h4,h5⟩=>It.ext h1 h2 h3 h4 h5⟩
 rw[e]
 by_cases h1:x.s=y.s<;>by_cases h2:x.k=y.k<;>by_cases h3:x.t=y.t<;>by_cases h4:x.v=y.v<;>by_cases h5:x.x=y.x<;>simp[h1,h2,h3,h4,h5] <;>omega
theorem sw1 (o:Bool) (x:It) (w:World):(Instr.checkKey o 10000 33 (.agg #[x.s,x.k,[x.t],[x.v],x.x])).run prog w=.ok () w:=by
 kernel_rfl
theorem oq5 (x:It) (w:World):(Instr.keyThatStays (.agg #[x.s,x.k,[x.t],[x.v],x.x]) (.agg #[x.s,x.k,[x.t],[x.v],x.x])).run prog w=.ok (.agg #[x.s,x.k,[x.t],[x.v],x.x]) w:=by
 simp[Instr.keyThatStays,Instr.sameBits]
theorem val_inj {x y:It} (h:x.val=y.val):x=y:=by
 unfold It.val at h;injection h with h;simp only[Array.mk.injEq,List.cons.injEq,Value.int.injEq,true_and,and_true]at h;obtain⟨h1,h2,h3,h4,h5⟩:=h;exact It.ext h1 h2 o_ o_ h5
theorem nw4 (x:It) (w:World):∀(es:List MapEntry) (i:Nat),(∀e∈es,∃y:It,e.key=y.val)->
  ((Instr.findAsking 33 x.val es i).run prog w=.ok none w/\∀e∈es,e.key≠x.val)\/∃j e,(Instr.findAsking 33 x.val es i).run prog w=.ok (some (i+j,e.val)) w/\es[j]?=some e/\e.key=x.val
 |[],i,_=>.inl ⟨by simp[Instr.findAsking],by simp⟩
 |a::es,i,h=>by
  obtain⟨y,z⟩:=h a p_;have C:=fz5 x y w
  by_cases o:x=y
  ·subst o
   refine .inr ⟨0,a,?_,rfl,z⟩;unfold It.val at z ⊢;simp[Instr.findAsking,z,C]
  ·rcases nw4 x w es (i+1) (fun e C=>h e (f_ _ C)) with ⟨h1,h2⟩|⟨j,e,h1,h2,h3⟩
   ·refine .inl ⟨?_,fun e E=>?_⟩
    ·unfold It.val at z h1 ⊢
     simp[Instr.findAsking,z,C,o,h1]
    ·rcases h_.1 E with rfl|E
     ·intro H
      rw[z]at H;exact o (val_inj H).symm
     ·exact h2 e E
   ·refine .inr ⟨j+1,e,?_,by simpa using h2,h3⟩
    unfold It.val at z h1 ⊢;simp[Instr.findAsking,z,C,o,h1];omega
theorem yz1 (x:It) (w:World) (es:List MapEntry) (h:∀e∈es,∃y:It,e.key=y.val):
  ((Instr.findKey 33 x.val es).run prog w=.ok none w/\∀e∈es,e.key≠x.val)\/∃j e,(Instr.findKey 33 x.val es).run prog w=.ok (some (j,e.val)) w/\es[j]?=some e/\e.key=x.val:=by
 have o:prog.underlying 33=some (.struct (prog.fieldsOf 33)):=by kernel_rfl
 cases es with
 |nil=>
  refine .inl ⟨?_,by simp⟩;simp[Instr.findKey,run_underlying o,Instr.findNow]
 |cons a es=>
  obtain⟨y,z⟩:=h a p_;have C:Instr.findNow (.struct (prog.fieldsOf 33)) x.val (a::es) 0=none:=by
   unfold Instr.findNow;rw[z];rfl
  have E:(Instr.findKey 33 x.val (a::es)).run prog w=(Instr.findAsking 33 x.val (a::es)).run prog w:=by
   simp[Instr.findKey,run_underlying o,C]
  rw[E]
  rcases nw4 x w (a::es) 0 h with h1|⟨j,e,h1,h2,h3⟩
  ·exact .inl h1
  ·exact .inr ⟨j,e,by simpa using h1,h2,h3⟩
def MpI (es:List MapEntry) (clock:Nat) (M:List It) (B:Nat):Prop:=
 (∀e∈es,(∃y∈M,e.key=y.val)/\(∃c:Nat,1<=c/\c<=B/\e.val=.int .i64 c)/\e.born < clock)/\∀y∈M,∃e∈es,e.key=y.val
def MpAt (w:World) (b:Nat) (M:List It) (B:Nat):Prop:=∃es clock,w.heap[b]?=some (.map es clock)/\MpI es.toList clock M B
def tw4 (w:World) (b:Nat) (M:List It) (x:It) (st B:Nat):Prop:=∃es clock,w.heap[b]?=some (.map es clock)/\
 (∀e∈es.toList,(∃y∈M++[x],e.key=y.val)/\e.born < clock)/\(∀y∈M++[x],∃e∈es.toList,e.key=y.val)/\(∃i:Nat,es.toList.findIdx? (fun e=>((e.born:Nat):Int)==((st:Nat):Int))=some i/\
  ∀(j:Nat) e,es.toList[j]?=some e->(∃c:Nat,c<=B/\e.val=.int .i64 c/\(j≠i->1<=c)))
theorem MpAt.look {w:World} {b:Nat} {M:List It} {B:Nat} (h:MpAt w b M B) (x:It):∃c:Nat,c<=B/\(decide (0 < c)=decide (x∈M))/\(Instr.lookup 260 (.map (some b)) x.val false).run prog w=.ok (.int .i64 c) w:=by
 obtain⟨es,clock,I,h1,h2⟩:=h;have J:prog.underlying 260=some (.map 33 3):=by kernel_rfl
 have O:(zeroValue 3).run prog w=.ok (.int .i64 0) w:=by kernel_rfl
 have o:=sw1 es.isEmpty x w
 rcases yz1 x w es.toList (fun e z=>let ⟨y,_,h⟩:=(h1 e z).1;⟨y,h⟩) with ⟨C,E⟩|⟨j,e,C,E,Q⟩
 ·refine⟨0,A_ _,?_,?_⟩
  ·have:x∉M:=fun U=>by
    obtain⟨e,z,H⟩:=h2 x U;exact E e z H
   simp[this]
  ·unfold It.val at C ⊢
   simp[Instr.lookup,run_underlying J,MapKept.run_getObj_map I,o,C,O]
 ·have z:=u_ E
  obtain⟨⟨y,hy,H⟩,⟨c,c1,c2,c3⟩,_⟩:=h1 e z;refine⟨c,c2,?_,?_⟩
  ·have:x=y:=val_inj (Q.symm.trans H)
   subst this;simp[hy];omega
  ·unfold It.val at C ⊢
   simp[Instr.lookup,run_underlying J,MapKept.run_getObj_map I,o,C,c3]
theorem tw4.look {w:World} {b:Nat} {M:List It} {x:It} {st B:Nat} (h:tw4 w b M x st B) (y:It):∃c:Nat,c<=B/\(Instr.lookup 260 (.map (some b)) y.val false).run prog w=.ok (.int .i64 c) w:=by
 obtain⟨es,clock,C,h1,h2,i,h3,h4⟩:=h;have E:prog.underlying 260=some (.map 33 3):=by kernel_rfl
 have I:(zeroValue 3).run prog w=.ok (.int .i64 0) w:=by kernel_rfl
 have o:=sw1 es.isEmpty y w
 rcases yz1 y w es.toList (fun e J=>let ⟨y,_,h⟩:=(h1 e J).1;⟨y,h⟩) with ⟨z,H⟩|⟨j,e,z,H,O⟩
 ·refine⟨0,A_ _,?_⟩
  unfold It.val at z ⊢;simp[Instr.lookup,run_underlying E,MapKept.run_getObj_map C,o,z,I]
 ·obtain⟨c,c1,c2,_⟩:=h4 j e H
  refine⟨c,c1,?_⟩;unfold It.val at z ⊢;simp[Instr.lookup,run_underlying E,MapKept.run_getObj_map C,o,z,c2]
abbrev putB (w:World) (b:Nat) (o:Obj):World:={ w with heap:=w.heap.setIfInBounds b o }
theorem oz1 {w:World} {b:Nat} {o:Obj} (z:b < (w:Nat)):(putB w b o).heap[b]?=some o:=by
 simp[putB,z]
theorem jw1 (w:World) (b:Nat) (o:Obj):w.grownBy (putB w b o) (some b):=⟨rfl,rfl,rfl,by simp,fun k _ z=>by
 simp only[putB];rw[Array.getElem?_setIfInBounds_ne (fun e=>z (by rw[e]))]⟩
theorem MpAt.entry {w:World} {b:Nat} {M:List It} {B:Nat} (h:MpAt w b M B) (x:It):∃(v0:Value) (st:Nat) (o:Obj),(Instr.mapEntry 260 (.map (some b)) x.val).run prog w=.ok (.tuple #[v0,(st:Int)]) (putB w b o)/\tw4 (putB w b o) b M x st B:=by
 obtain⟨es,clock,Q,h1,h2⟩:=h;have U:=(E_.1 Q).1;have ht:prog.underlying 260=some (.map 33 3):=by kernel_rfl
 have hz:(zeroValue 3).run prog w=.ok (.int .i64 0) w:=by kernel_rfl
 have a0:=sw1 false x w;have a1:=oq5 x w
 rcases yz1 x w es.toList (fun e z=>let ⟨y,_,h⟩:=(h1 e z).1;⟨y,h⟩) with ⟨k1,k2⟩|⟨j,e,k1,k2,k3⟩
 ·refine⟨.int .i64 0,clock,.map (es.push ⟨x.val,.int .i64 0,clock⟩) (clock+1),?_,es.push ⟨x.val,.int .i64 0,clock⟩,clock+1,oz1 U,?_,?_,es.toList.length,?_,?_⟩
  ·unfold It.val at k1 ⊢
   simp[Instr.mapEntry,run_underlying ht,MapKept.run_getObj_map Q,a0,k1,hz,MapKept.run_setObj_map _ Q,goInt]
  ·intro e z
   simp only[bh_,q_,c_]at z
   rcases z with z|rfl
   ·obtain⟨⟨y,E,I⟩,_,hc⟩:=h1 e z
    exact⟨⟨y,x_ _ E,I⟩,o_⟩
   ·exact⟨⟨x,by simp,rfl⟩,by simp⟩
  ·intro y E
   simp only[bh_]
   rcases q_.1 E with E|E
   ·obtain⟨e,z,I⟩:=h2 y E
    exact⟨e,x_ _ z,I⟩
   ·rw[c_.1 E]
    exact⟨_,k_ _ (c_.2 rfl),rfl⟩
  ·simp only[bh_]
   have a7:∀(l:List MapEntry),(∀e∈l,e.born < clock)->l.findIdx? (fun e=>((e.born:Nat):Int)==((clock:Nat):Int))=none:=fun l hl=>by
    rw[cq_];intro e z;have:=hl e z;simp;omega
   rw[List.findIdx?_append,a7 _ (fun e z=>(h1 e z).2.2)];simp[List.findIdx?_cons]
  ·intro j e z
   simp only[bh_]at z
   rcases ad_ j es.toList.length with hj|hj
   ·rw[K_ hj]at z
    obtain⟨_,⟨c,c1,c2,c3⟩,_⟩:=h1 e (u_ z);exact⟨c,c2,c3,fun _=>c1⟩
   ·rw[af_ hj]at z
    obtain⟨a8,z⟩:=C_.1 z;have a9:j=es.toList.length:=by
     have:j - es.toList.length < 1:=a8;omega
    subst a9;simp only[by_,a5_]at z;subst z;exact⟨0,A_ _,rfl,fun h=>absurd rfl h⟩
 ·have z:=u_ k2
  obtain⟨⟨y,E,I⟩,⟨c,c1,c2,c3⟩,_⟩:=h1 e z;have a':x=y:=val_inj (k3.symm.trans I);subst a';have b0:es[j]?=some e:=by simpa using k2
  have H:es.modify j (fun e=>{ e with key:=x.val })=es:=by
   apply Array.ext';rw[bQ_];apply List.ext_getElem?;intro i;rw[br_]
   by_cases a5:j=i
   ·subst a5
    rw[k2];simp only[Option.map_eq_map,aR_,if_pos];rw[<-k3]
   ·simp[a5]
  obtain⟨i,hi⟩:∃i,es.toList.findIdx? (fun J=>((J.born:Nat):Int)==((e.born:Nat):Int))=some i:=by
   cases hf:es.toList.findIdx? (fun J=>((J.born:Nat):Int)==((e.born:Nat):Int)) with
   |some i=>exact⟨i,rfl⟩
   |none=>
    rw[cq_]at hf;have:=hf e z;simp at this
  refine⟨.int .i64 c,e.born,.map es clock,?_,es,clock,oz1 U,?_,?_,i,hi,?_⟩
  ·unfold It.val at k1 k3 H a1 ⊢
   simp[Instr.mapEntry,run_underlying ht,MapKept.run_getObj_map Q,a0,k1,b0,k3,a1,H,c3,MapKept.run_setObj_map _ Q,goInt]
  ·intro J O
   obtain⟨⟨y,E,I⟩,_,hc⟩:=h1 J O;exact⟨⟨y,x_ _ E,I⟩,hc⟩
  ·intro y' C
   rcases q_.1 C with C|C
   ·exact h2 y' C
   ·rw[c_.1 C]
    exact⟨e,z,k3⟩
  ·intro j' J O
   obtain⟨_,⟨c',b1,b2,b3⟩,_⟩:=h1 J (u_ O);exact⟨c',b2,b3,fun _=>b1⟩
theorem tw4.store {w:World} {b:Nat} {M:List It} {x:It} {st B:Nat} (h:tw4 w b M x st B) (c:Nat) (O:1<=c) (Q:c<=B+1):∃o:Obj,(Instr.entryStore 260 (.map (some b)) (.int .i64 st) (.int .i64 c)).run prog w=.ok () (putB w b o)/\MpAt (putB w b o) b (M++[x]) (B+1):=by
 obtain⟨es,clock,U,h1,h2,i,h3,h4⟩:=h;have a0:=(E_.1 U).1;have a1:es.findIdx? (fun e=>((e.born:Nat):Int)==((st:Nat):Int))=some i:=by
  have e1:es.findIdx? (fun e=>((e.born:Nat):Int)==((st:Nat):Int))=es.toList.findIdx? (fun e=>((e.born:Nat):Int)==((st:Nat):Int)):=by cases es;simp
  rw[e1];exact h3
 refine⟨.map (es.modify i fun e=>{ e with val:=.int .i64 c }) clock,?_,es.modify i fun e=>{ e with val:=.int .i64 c },clock,oz1 a0,?_,?_⟩
 ·simp[Instr.entryStore,MapKept.run_getObj_map U,asInt,asIntOf,a1,MapKept.run_setObj_map _ U]
 ·intro e I
  rw[bQ_]at I;obtain⟨j,hj⟩:=bH_ I;rw[br_]at hj
  cases C:es.toList[j]? with
  |none=>rw[C]at hj;simp at hj
  |some J=>
   rw[C]at hj;obtain⟨E,H⟩:=h1 J (u_ C);obtain⟨c',d1,d2,d3⟩:=h4 j J C
   by_cases z:i=j
   ·have h5:({ J with val:=.int .i64 c }:MapEntry)=e:=by simpa [z] using hj
    subst h5;exact⟨E,⟨c,O,Q,rfl⟩,H⟩
   ·have h5:J=e:=by simpa [z] using hj
    subst h5;exact⟨E,⟨c',d3 (fun e=>z e.symm),o_,d2⟩,H⟩
 ·intro y hy
  obtain⟨e,I,E⟩:=h2 y hy;obtain⟨j,hj⟩:=bH_ I;rw[bQ_]
  by_cases z:i=j
  ·refine⟨{ e with val:=.int .i64 c },?_,E⟩
   apply u_ (i:=j);rw[br_,hj];simp[z]
  ·refine⟨e,?_,E⟩
   apply u_ (i:=j);rw[br_,hj];simp[z]
def HsAt (w:World) (g b:Nat) (M:List It):Prop:=(∃B,B<=1000000/\MpAt w b M B)/\BoxO w 260 g [.map (some b)]
theorem MpAt.below {w w':World} {b B:Nat} {M:List It} (h:MpAt w b M B) (o:Below w w w'):MpAt w' b M B:=by
 obtain⟨es,clock,h1,h2⟩:=h;exact⟨es,clock,(o.block b (E_.1 h1).1).trans h1,h2⟩
theorem HsAt.below {w w':World} {g b:Nat} {M:List It} (h:HsAt w g b M) (o:Below w w w'):HsAt w' g b M:=⟨let ⟨B,h1,h2⟩:=h.1;⟨B,h1,h2.below o⟩,h.2.below o⟩
theorem lk5 (x:It) (g b:Nat) (M:List It) (w:World) (h:HsAt w g b M):Calls prog 183 #[x.val,g] w fun e w'=>e=.returned (.bool (decide (x∈M)))/\Below w w w':=by
 obtain⟨⟨B,I,C⟩,E⟩:=h;have o:=C.below (b_ w (.cells #[x.s,x.k,[x.t],[x.v],x.x] 33));obtain⟨c,c1,c2,c3⟩:=o.look x;have c0:=(E.alloc (.cells #[x.s,x.k,[x.t],[x.v],x.x] 33)).c0;have z:=b_ w (.cells #[x.s,x.k,[x.t],[x.v],x.x] 33);rw[<-c2];have H:decide ((0:Int) < (c:Int))=decide (0 < c):=by simp
 unfold It.val at *;clear C o E c2;go_enter func183,ntmps183;go_wp2;go_ret;exact⟨by simp,z⟩
theorem grown_drew (w:World) (r:Option Nat):w.grownBy w.drew r:=⟨rfl,rfl,rfl,B_ _,fun _ _ _=>rfl⟩
theorem qv1 {w w1 z:World} {b:Nat} (h:w.grownBy w1 (some b)) (k:w1.grownBy z (some b)):w.grownBy z (some b):=⟨k.os.trans h.os,k.tape.trans h.tape,k.output.trans h.output,g_ h.size k.size,fun g C o=>(k.block g (L_ C h.size) o).trans (h.block g C o)⟩
theorem kw3 {w wr C o:World} {k:Nat} {l:List It} {x:It} (H:C=wr.alloc (.cells #[x.s,x.k,[x.t],[x.v],x.x] 33)) (I:MpAt o w (l.take k++[x]) (k+1)) (E:C.grownBy o (some (w:Nat))) (z:BoxO wr 260 ((w:Nat)+1) [.map (some (w:Nat))]/\Below w w wr) (J:l.take (k+1)=l.take k++[x]):
  MpAt o w (l.take (k+1)) (k+1)/\BoxO o 260 ((w:Nat)+1) [.map (some (w:Nat))]/\Below w w o:=by
 subst H;refine⟨by rw[J];exact I,(z.1.alloc _).bq2 E s_,?_⟩;exact(z.2.alloc z.2.size _).grown E (by rw[F_];have:=z.2.size;omega) (fun g e=>by cases e;exact B_ _)
theorem kz22 {P S a oi v} (h:Hv P S a oi v:=by intro w' o;obtain⟨m0,d0,d1,d2,d3,d4⟩:=HC.out w' o;go_simp;try (with_reducible rfl)):Hv P S a oi v:=h
theorem rx5 (A:Option Addr) (n c:Nat) (l:List It) (w:World) (hn:n<=1000000) (hr:Row w w A n 5 (itc l)):
  Calls prog 119 #[.slice A n c] w fun e w'=>∃g b,e=.returned (.func (.func 183) #[] #[.pointer (some ⟨g,0,none⟩)])/\HsAt w' g b l/\Below w w w':=by
 have a6:=hr.yw;have e6:=@run_makeMap prog;have h0:MpAt ((w.alloc (.map #[] 0)).alloc (.cells #[.map (some (w:Nat))] 260)) w [] 0:=by
  refine⟨#[],0,?_,fun e he=>by simp at he,fun y hy=>by simp at hy⟩;rw[Below.heap_alloc _ _ _ s_,bI_]
 have a7:BoxO ((w.alloc (.map #[] 0)).alloc (.cells #[.map (some (w:Nat))] 260)) 260 ((w:Nat)+1) [.map (some (w:Nat))]:=by
  have h1:=BoxO.new (w.alloc (.map #[] 0)) #[.map (some (w:Nat))] 260;rw[F_]at h1;exact h1
 have a8:Below w w ((w.alloc (.map #[] 0)).alloc (.cells #[.map (some (w:Nat))] 260)):=
  ((Below.refl _ w).alloc l_ _).alloc s_ _
 have HH:=H_ (d_ h0 (d_ a7 a8));have b6:=H_ a6;clear h0 a7 a8 a6;go_enter func119,ntmps119;go_wp2
 go_loopw [9] (fun i wr=>∃k:Nat,k<=n/\i=.int .i64 k/\Hid (MpAt wr w (l.take k) k/\BoxO wr 260 ((w:Nat)+1) [.map (some (w:Nat))]/\Below w w wr)) (fun i _=>n - (intOf i).toNat)
 case atStart=>exact⟨0,A_ _,rfl,HH⟩
 case round=>
  obtain⟨k,f0,rfl,Q⟩:=hrel
  by_cases b7:k < n
  ·obtain⟨p,hl,rfl,f2,e0,e1,e2,e3,e4⟩:=(hr.below Q.2.2).it b7
   have b8:(k:Int) < (n:Int):=o_
   have f3:IntKind.i64.wrap (k:Int)=(k:Int):=M_ _ o_;have a9:l.take (k+1)=l.take k++[l[k]]:=v_ hl;generalize l[k]=x at *;have a1:BoxO (wr.alloc (.cells #[x.s,x.k,[x.t],[x.v],x.x] 33)) 33 (wr:Nat) x.cells:=BoxO.new wr #[x.s,x.k,[x.t],[x.v],x.x] 33;obtain⟨W1,E⟩:=n_ (wr.alloc (.cells #[x.s,x.k,[x.t],[x.v],x.x] 33));have U:MpAt W1 w (l.take k) k:=by rw[E];exact Q.1.below ((Below.refl _ wr).alloc l_ _)
   have b0:MpAt W1.drew w (l.take k) k:=U;have b1:BoxO W1 260 ((w:Nat)+1) [.map (some (w:Nat))]:=by rw[E];exact Q.2.1.alloc _
   rw[<-E]at a1;have d9:(w:Nat)+1 < (wr:Nat):=Q.2.1.lt;obtain⟨g,hg⟩:=n_ (wr:Nat);have b2:∀w',W1.grownBy w' (some (w:Nat))->w'.cell? ⟨(w:Nat)+1,0,none⟩=some (.map (some (w:Nat)))/\w'.cell? ⟨g,0,none⟩=some (.int .i64 x.s)/\w'.cell? ⟨g,1,none⟩=some (.int .i64 x.k)/\w'.cell? ⟨g,2,none⟩=some (.int .u64 x.t)/\w'.cell? ⟨g,3,none⟩=some (.int .u64 x.v)/\w'.cell? ⟨g,4,none⟩=some (.int .i64 x.x):=by
    intro w' b3;have h1:=(b1.bq2 b3 s_).cell 0;have h2:=a1.bq2 b3 (by simp;omega);rw[<-hg]at h2;exact⟨h1,h2.cell 0,h2.cell 1,h2.cell 2,h2.cell 3,h2.cell 4⟩
   have HC:=H_ b2;have a2:=H_ b0;have HW:=H_ E;have b5:=H_ Q.2;have HT:=H_ a9;have HG:=H_ hg;clear b2 b0 U E a9 a1 b1 hg Q;go_wp2_with fail;rw[<-HW.out,<-HG.out];refine wp_region_held_drew (S:=fun w'=>W1.grownBy w' (some (w:Nat))) rfl (grown_drew _ _) (fun o=>?_);refine w_v 0 o ?_ (k:=kz22);go_simp;refine w_v 1 o ?_ (k:=kz22);go_simp;refine wpAnyH_ready (rs:=[2,4]) (by kernel_rfl) s_ ?_;refine AllReadyH.cons rfl (fun K z=>?_) (AllReadyH.cons rfl (fun K z=>?_) AllReadyH.nil)
   ·obtain⟨c,c1,_,c3⟩:=a2.look x
    unfold It.val at c3;go_simp;refine z.out _ _ o ?_;clear o z K;intro o;clear c3;have c9:IntKind.i64.wrap ((c:Int)+1)=((c+1:Nat):Int):=by rw[M_ _ o_];omega
    go_simp;refine w_v 3 o ?_ (k:=kz22);go_simp;refine w_r 4 fun K z=>?_;obtain⟨v0,st,o1,H,C⟩:=a2.entry x;have O:=H_ C;unfold It.val at H;clear C;go_simp;refine z.out _ _ (qv1 o (jw1 _ _ _)) ?_;clear o z K;intro o;clear H;go_simp;refine w_v 5 o ?_ (k:=kz22);go_simp;refine w_r 6 fun K z=>?_;obtain⟨o2,I,J⟩:=O.store (c+1) o_ o_;have a4:=H_ J;clear J;rw[show ((c+1:Nat):Int)=(c:Int)+1 from by omega]at I;go_simp;refine z.out _ _ (qv1 o (jw1 _ _ _)) ?_;clear o z K;intro o;clear I;go_simp;refine w_d ?_;have HF:=H_ (kw3 HW.out a4.out o b5.out HT);clear o;go_wp2;go_roundw
    case rel=>exact⟨k+1,o_,by go_num,HF⟩
    case measure=>simp[intOf];omega
   ·obtain⟨v0,st,o1,H,C⟩:=a2.entry x
    have O:=H_ C;unfold It.val at H;clear C;go_simp;refine z.out _ _ (qv1 o (jw1 _ _ _)) ?_;clear o z K;intro o;clear H;go_simp;refine w_v 5 o ?_ (k:=kz22);go_simp;refine w_r 2 fun K z=>?_;obtain⟨c,c1,c3⟩:=O.look x;unfold It.val at c3;go_simp;refine z.out _ _ o ?_;clear o z K;intro o;clear c3;have c9:IntKind.i64.wrap ((c:Int)+1)=((c+1:Nat):Int):=by rw[M_ _ o_];omega
    go_simp;refine w_v 3 o ?_ (k:=kz22);go_simp;refine w_r 6 fun K z=>?_;obtain⟨o2,I,J⟩:=O.store (c+1) o_ o_;have a4:=H_ J;clear J;rw[show ((c+1:Nat):Int)=(c:Int)+1 from by omega]at I;go_simp;refine z.out _ _ (qv1 o (jw1 _ _ _)) ?_;clear o z K;intro o;clear I;go_simp;refine w_d ?_;have HF:=H_ (kw3 HW.out a4.out o b5.out HT);clear o;go_wp2;go_roundw
    case rel=>exact⟨k+1,o_,by go_num,HF⟩
    case measure=>simp[intOf];omega
  ·have b8:((k:Int) < (n:Int))=False:=eq_false o_
   have a0:l.take k=l:=i_ (by have:=b6.out;omega);have hb:=Q.out;rw[a0]at hb;have HF:=H_ hb;clear hb Q a0;go_wp2;go_ret;exact⟨(w:Nat)+1,(w:Nat),rfl,⟨⟨k,o_,HF.1⟩,HF.2.1⟩,HF.2.2⟩
def upto (l:List It) (v:Nat):List It:=l.filter fun a=>decide (a.v<=v)
theorem vz4 (a:It) (v b:Nat) (w:World) (C:w.cell? b=some (.int .u64 v)):
  Calls prog 70 (#[a.val] ++#[.pointer (some b)]) w fun e w'=>e=.returned (.bool (decide (a.v<=v)))/\Below w w w':=by
 have z:=b_ w (.cells #[a.s,a.k,[a.t],[a.v],a.x] 33);have E:∀o,(w.alloc o).cell? b=some (.int .u64 v):=fun o=>(ap_ w o _ (S_ w _ C)).trans C;unfold It.val;go_enter func70,ntmps70;go_wp2;go_ret;exact⟨rfl,z⟩
theorem ew2 (A:Option Addr) (n c:Nat) (l:List It) (v:Nat) (w:World) (O:n<=1000000) (C:Row w w A n 5 (itc l)):
  Calls prog 26 #[.slice A n c,[v]] w (ej1 w (upto l v)):=by
 have o:=b_ w (.cells #[[v]] 22);have z:=BoxO.new w #[[v]] 22;have E:=xk2 70 (fun _ _=>rfl) #[(w:Nat)] (fun a=>decide (a.v<=v)) A n c l (w.alloc (.cells #[[v]] 22)) O ((C.below o).up o.size)
  (fun x w1 Q=>vz4 x v w w1 (by rw[(z.below Q).cell];rfl))
 have I:=H_ E;unfold upto;clear E C z;go_enter func26,ntmps26;go_wp2_with fail;refine I.mono ?_;rintro e w1 ⟨J,k,rfl,h1,h2,h3⟩;have H:=H_ (show ej1 w (l.filter fun a=>decide (a.v<=v)) (.returned (.slice J k k)) w1 from ⟨J,k,rfl,h1,⟨h2.row,h2.nc,h2.cm,fun p U=>g_ o.size (h2.low p U)⟩,az o h3⟩);clear h1 h2 h3 I o;go_wp2;go_ret;exact H
theorem kz35 {P S a Q v} (h:Hv P S a Q v:=by intro w o;(obtain⟨⟨c0,c1,c2,c3,c4⟩,d0,d1,d2,d3,d4⟩:=KC.out w o);go_simp;try (with_reducible rfl)):Hv P S a Q v:=h
theorem kz36 {P S a Q v} (h:Hv P S a Q v:=by intro w o;(obtain⟨⟨c0,c1,c2,c3,c4⟩,d0,d1,d2,d3,d4⟩:=KC.out w o;have d5:=a'.out);go_simp;try (with_reducible rfl)):Hv P S a Q v:=h
theorem ej4 (A:Option Addr) (n c:Nat) (a:List It) (B:Option Addr) (m d:Nat) (b:List It) (w:World) (hn:n<=1000000) (hm:m<=1000000) (ra:Row w w A n 5 (itc a)) (rb:Row w w B m 5 (itc b)):
  Calls prog 131 #[.slice A n c,.slice B m d] w fun e w'=>e=.returned (.bool (decide (a=b)))/\Below w w w':=by
 have b0:=ra.yw;have b1:=rb.yw;obtain⟨r,U⟩:=n_ (decide (a=b));rw[<-U]
 by_cases a0:n=m
 ·subst a0
  have HR:=H_ U;clear U;go_enter func131,ntmps131;go_wp2
  go_loopw [13] (fun i wr=>∃k:Nat,k<=n/\i=.int .i64 k/\Hid (a.take k=b.take k)/\Below w w wr) (fun i _=>n - (intOf i).toNat)
  case atStart=>exact⟨0,A_ _,rfl,H_ rfl,Below.refl _ _⟩
  case round=>
   obtain⟨k,hk,rfl,HE,z⟩:=hrel
   by_cases a1:k < n
   ·obtain⟨p,hl,rfl,b2,hd⟩:=(ra.below z).it a1
    obtain⟨H,b3,rfl,a2,a4⟩:=(rb.below z).it a1;have a5:a.take (k+1)=a.take k++[a[k]]:=v_ hl;have a6:b.take (k+1)=b.take k++[b[k]]:=v_ b3;have C:a[k]≠b[k]->a≠b:=fun h e=>by subst e;exact h rfl
    generalize a[k]=x at *;generalize b[k]=y at *;have b5:=ay6 x y;have a7:∀w',Below wr wr w'->(w'.cell? (p.add (k *5))=some (.int .i64 x.s)/\w'.cell? ⟨(p.add (k *5)).block,(p.add (k *5)).off+1,none⟩=some (.int .i64 x.k)/\w'.cell? ⟨(p.add (k *5)).block,(p.add (k *5)).off+2,none⟩=some (.int .u64 x.t)/\w'.cell? ⟨(p.add (k *5)).block,(p.add (k *5)).off+3,none⟩=some (.int .u64 x.v)/\w'.cell? ⟨(p.add (k *5)).block,(p.add (k *5)).off+4,none⟩=some (.int .i64 x.x))/\w'.cell? (H.add (k *5))=some (.int .i64 y.s)/\w'.cell? ⟨(H.add (k *5)).block,(H.add (k *5)).off+1,none⟩=some (.int .i64 y.k)/\w'.cell? ⟨(H.add (k *5)).block,(H.add (k *5)).off+2,none⟩=some (.int .u64 y.t)/\w'.cell? ⟨(H.add (k *5)).block,(H.add (k *5)).off+3,none⟩=some (.int .u64 y.v)/\w'.cell? ⟨(H.add (k *5)).block,(H.add (k *5)).off+4,none⟩=some (.int .i64 y.x):=fun w' hb=>by
     have h1:=hd.below (B:=(wr:Nat)) (w':=w') (L_ b2 z.size) hb;have h2:=a4.below (B:=(wr:Nat)) (w':=w') (L_ a2 z.size) hb;exact⟨⟨h1.c0,h1.c1,h1.c2,h1.c3,h1.c4⟩,h2.c0,h2.c1,h2.c2,h2.c3,h2.c4⟩
    have KC:=H_ a7;have b6:=H_ C;have HT:=H_ (d_ a5 a6);have d7:IntKind.i64.wrap (k:Int)=(k:Int):=M_ _ o_;have d8:(k:Int) < (n:Int):=o_
    clear a7 C a5 a6 hd a4 b5
    by_cases E:x=y
    ·have J:=H_ (show a.take (k+1)=b.take (k+1) by rw[HT.1,HT.2,HE.out,E])
     subst E;go_wp2_with fail;refine w_h wr fun o=>?_;refine w_v 0 o ?_ (k:=kz35);go_simp;refine w_v 1 o ?_ (k:=kz35);go_simp;refine w_v 2 o ?_ (k:=kz35);go_simp;refine w_v 3 o ?_ (k:=kz35);go_simp;refine w_v 4 o ?_ (k:=kz35);go_simp;refine w_v 5 o ?_ (k:=kz35);go_simp;refine w_v 6 o ?_ (k:=kz35);go_simp;refine w_v 7 o ?_ (k:=kz35);go_simp;refine w_v 8 o ?_ (k:=kz35);go_simp;refine w_d ?_;have O:=z.trans (o.mono z.size);clear o KC;go_wp2;go_roundw
     case rel=>exact⟨k+1,o_,by go_num,J,O⟩
     case measure=>simp[intOf];omega
    ·have a8:r=false:=by
      rw[HR.out];simpa using b6.out E
     have J:=H_ a8;have a':=H_ (fun(α:Type) (A B:α)=>ey6 E A B);clear a8 E;go_wp2_with fail;refine w_h wr fun o=>?_;refine w_v 0 o ?_ (k:=kz36);go_simp;refine w_v 1 o ?_ (k:=kz36);go_simp;refine w_v 2 o ?_ (k:=kz36);go_simp;refine w_v 3 o ?_ (k:=kz36);go_simp;refine w_v 4 o ?_ (k:=kz36);go_simp;refine w_v 5 o ?_ (k:=kz36);go_simp;refine w_v 6 o ?_ (k:=kz36);go_simp;refine w_v 7 o ?_ (k:=kz36);go_simp;refine w_v 8 o ?_ (k:=kz36);go_simp;refine w_d ?_;have O:=z.trans (o.mono z.size);clear o KC;go_wp2;go_ret;exact⟨ik J.symm,O⟩
   ·have I:r=true:=by
     have:=HE.out;rw[i_ o_,i_ o_]at this;rw[HR.out,this];simp
    have J:=H_ I;clear I;go_wp2;go_ret;exact⟨ik J.symm,z⟩
 ·have C:r=false:=by
   rw[U];have:a≠b:=fun e=>a0 (by rw[<-b0,<-b1,e]);simpa using this
  have e1:((n:Int)==(m:Int))=false:=by rw[beq_eq_false_iff_ne];omega
  have J:=H_ C;clear C U;go_enter func131,ntmps131;go_wp2;go_ret;exact⟨ik J.symm,Below.refl _ _⟩
theorem by3 (A:Option Addr) (n c:Nat) (a:List It) (B:Option Addr) (m d:Nat) (b:List It) (w:World) (z:n<=1000000) (C:m<=1000000) (o:Row w w A n 5 (itc a)) (rb:Row w w B m 5 (itc b)):
  Calls prog 64 #[.slice A n c,.slice B m d] w fun e w'=>e=.returned (.bool (decide (a=b)))/\Below w w w':=by
 have E:=H_ (ej4 A n c a B m d b w z C o rb);clear o rb;go_enter func64,ntmps64;go_wp2_with fail;refine E.mono ?_;rintro e w1 ⟨rfl,h1⟩;go_wp2;go_ret;exact⟨rfl,h1⟩
namespace Aw
end Aw
def Mx (l:List It) (s:Int) (v:Nat):Prop:=(∃t∈l,t.k=1/\t.s=s/\t.v=v)/\∀t∈l,t.k=1->t.s=s->t.v<=v
def TmI (es:List MapEntry) (l:List It):Prop:=(∀e∈es,∃(s:Int) (v:Nat),e.key=.int .i64 s/\e.val=.int .u64 v/\Mx l s v)/\(∀t∈l,t.k=1->∃e∈es,e.key=.int .i64 t.s)/\es.Pairwise fun a b=>a.key≠b.key
def TmAt (w:World) (b:Nat) (l:List It):Prop:=∃es clock,w.heap[b]?=some (.map es clock)/\TmI es.toList l
variable {w w':World} {b:Nat} {l:List It}
theorem TmAt.below (h:TmAt w b l) (o:Below w w w'):TmAt w' b l:=by
 obtain⟨es,clock,h1,h2⟩:=h;exact⟨es,clock,(o.block b (E_.1 h1).1).trans h1,h2⟩
theorem TmAt.look (h:TmAt w b l) (s:Int):∃(v:Nat) (ok:Bool),(Instr.lookup 310 (.map (some b)) (.int .i64 s) false).run prog w=.ok (.int .u64 v) w/\(Instr.lookup 310 (.map (some b)) (.int .i64 s) true).run prog w=.ok (.tuple #[[v],.bool ok]) w/\
  (ok=true->Mx l s v)/\(ok=false->v=0/\∀t∈l,t.k=1->t.s≠s):=by
 obtain⟨es,clock,C,h1,h2,_⟩:=h;have E:prog.underlying 310=some (.map 3 22):=by kernel_rfl
 have hd:prog.underlying 3=some (.int .i64):=by kernel_rfl
 have hz:(zeroValue 22).run prog w=.ok (.int .u64 0) w:=by kernel_rfl
 have z:=MapKept.run_checkKey (w:=w) hd (k:=.int .i64 s) rfl es.isEmpty 9999
 rcases MapKept.findNow_spec (d:=.int .i64) (k:=.int .i64 s) rfl es.toList 0 (fun e I=>by obtain⟨s',v,J,_⟩:=h1 e I;rw[J];exact rfl) with ⟨O,Q⟩|⟨j,e,O,Q,k3⟩
 ·have o:=MapKept.run_findKey (w:=w) hd O
  refine⟨0,false,?_,?_,by simp,fun _=>⟨rfl,fun t U a0 hs=>?_⟩⟩
  ·simp[Instr.lookup,run_underlying E,MapKept.run_getObj_map C,z,o,hz]
  ·simp[Instr.lookup,run_underlying E,MapKept.run_getObj_map C,z,o,hz]
  ·obtain⟨e,I,J⟩:=h2 t U a0
   exact Q e I (by rw[J,hs])
 ·have o:=MapKept.run_findKey (w:=w) hd O
  obtain⟨s',v,H,e2,e3⟩:=h1 e (u_ Q);rw[k3]at H;injection H with _ H;subst H;refine⟨v,true,?_,?_,fun _=>e3,by simp⟩
  ·simp[Instr.lookup,run_underlying E,MapKept.run_getObj_map C,z,o,e2]
  ·simp[Instr.lookup,run_underlying E,MapKept.run_getObj_map C,z,o,e2]
theorem Mx.more {s:Int} {v:Nat} (h:Mx l s v) {x:It} (C:x.k=1->x.s≠s):Mx (l++[x]) s v:=by
 obtain⟨⟨t,h1,h2⟩,h3⟩:=h;refine⟨⟨t,x_ _ h1,h2⟩,fun u E o z=>?_⟩
 rcases q_.1 E with q|q
 ·exact h3 u q o z
 ·rw[c_.1 q]at o z
  exact absurd z (C o)
theorem TmAt.skip (h:TmAt w b l) {x:It} (z:x.k≠1):TmAt w b (l++[x]):=by
 obtain⟨es,clock,C,h1,h2,h3⟩:=h;refine⟨es,clock,C,fun e E=>?_,fun t H o=>?_,h3⟩
 ·obtain⟨s,v,I,J,O⟩:=h1 e E
  exact⟨s,v,I,J,O.more fun h=>absurd h z⟩
 ·rcases q_.1 H with q|q
  ·exact h2 t q o
  ·rw[c_.1 q]at o
   exact absurd o z
theorem TmAt.put (h:TmAt w b l) (x:It) (hx:x.k=1) (v0:Nat) (ok:Bool) (h1:ok=true->Mx l x.s v0) (h0:ok=false->v0=0/\∀t∈l,t.k=1->t.s≠x.s):
  ∃o:Obj,(Instr.mapUpdate 310 (.map (some b)) (.int .i64 x.s) (.int .u64 (max (v0:Int) (x.v:Int)))).run prog w=.ok () (putB w b o)/\TmAt (putB w b o) b (l++[x]):=by
 obtain⟨es,clock,hb,k1,k2,k3⟩:=h;have a7:=(E_.1 hb).1;have O:prog.underlying 310=some (.map 3 22):=by kernel_rfl
 have hd:prog.underlying 3=some (.int .i64):=by kernel_rfl
 have Q:MapKept.IsKey (.int .i64) (.int .i64 x.s):=rfl;have a8:=MapKept.run_checkKey (w:=w) hd Q;have hm:Mx (l++[x]) x.s (max v0 x.v):=by
  refine⟨?_,fun t O H hs=>?_⟩
  ·rcases Nat.le_total v0 x.v with q|q
   ·exact⟨x,by simp,hx,rfl,o_⟩
   ·cases ok with
    |true=>
     obtain⟨⟨t,t1,t2,t3,t4⟩,_⟩:=h1 rfl;exact⟨t,x_ _ t1,t2,t3,o_⟩
    |false=>exact⟨x,by simp,hx,rfl,by have:=(h0 rfl).1;omega⟩
  ·rcases q_.1 O with q|q
   ·cases ok with
    |true=>have:=(h1 rfl).2 t q H hs;omega
    |false=>exact absurd hs ((h0 rfl).2 t q H)
   ·rw[c_.1 q]
    omega
 have U:max (v0:Int) (x.v:Int)=((max v0 x.v:Nat):Int):=o_
 rw[U];generalize max v0 x.v=I at *
 rcases MapKept.findNow_spec (d:=.int .i64) Q es.toList 0 (fun e E=>by obtain⟨s',v,H,_⟩:=k1 e E;rw[H];exact rfl) with ⟨q1,J⟩|⟨j,e,q1,J,q3⟩
 ·have a0:=MapKept.run_findKey (w:=w) hd q1
  refine⟨.map (es.push ⟨.int .i64 x.s,.int .u64 I,clock⟩) (clock+1),by simp[Instr.mapUpdate,run_underlying O,MapKept.run_getObj_map hb,a8,a0,MapKept.run_setObj_map _ hb],_,_,oz1 a7,fun e E=>?_,fun t O H=>?_,?_⟩
  ·simp only[bh_,q_,c_]at E
   rcases E with E|rfl
   ·obtain⟨s,v,e1,e2,e3⟩:=k1 e E
    exact⟨s,v,e1,e2,e3.more fun _ hs=>J e E (by rw[e1,hs])⟩
   ·exact⟨x.s,I,rfl,rfl,hm⟩
  ·simp only[bh_]
   rcases q_.1 O with q|q
   ·obtain⟨e,E,H⟩:=k2 t q H
    exact⟨e,x_ _ E,H⟩
   ·rw[c_.1 q]
    exact⟨_,k_ _ (c_.2 rfl),rfl⟩
  ·simp only[bh_]
   exact bs_.2 ⟨k3,cx_ _ _,fun a ha c hc=>by rw[c_.1 hc];exact J a ha⟩
 ·have a0:=MapKept.run_findKey (w:=w) hd q1
  have hj:es[j]?=some e:=by simpa using J
  have c9:(Instr.keyThatStays (.int .i64 x.s) (.int .i64 x.s)).run prog w=.ok (.int .i64 x.s) w:=MapKept.run_keyThatStays Q;have C:∀i:Nat,(es.modify j fun e=>{ e with key:=.int .i64 x.s,val:=.int .u64 I }).toList[i]?=if j=i then some { e with key:=.int .i64 x.s,val:=.int .u64 I } else es.toList[i]?:=fun i=>by
   rw[bQ_,br_]
   by_cases z:j=i
   ·subst z
    rw[J];simp
   ·simp[z]
  refine⟨.map (es.modify j fun e=>{ e with key:=.int .i64 x.s,val:=.int .u64 I }) clock,by simp[Instr.mapUpdate,run_underlying O,MapKept.run_getObj_map hb,a8,a0,hj,q3,c9,MapKept.run_setObj_map _ hb],_,_,oz1 a7,fun e' E=>?_,fun t O H=>?_,?_⟩
  ·obtain⟨i,hi⟩:=bH_ E
   rw[C]at hi
   by_cases z:j=i
   ·rw[if_pos z]at hi
    injection hi with hi;subst hi;exact⟨x.s,I,rfl,rfl,hm⟩
   ·rw[if_neg z]at hi
    obtain⟨s,v,e1,e2,e3⟩:=k1 e' (u_ hi);refine⟨s,v,e1,e2,e3.more fun _ hs=>?_⟩;obtain⟨b0,ej⟩:=C_.1 J;obtain⟨b1,ei⟩:=C_.1 hi;have d1:e.key≠e'.key:=by
     rw[<-ej,<-ei]
     rcases co_ z with q|q
     ·exact ay_.1 k3 j i b0 b1 q
     ·exact(ay_.1 k3 i j b1 b0 q).symm
    exact d1 (by rw[q3,e1,hs])
  ·have hex:∀s,(∃e∈es.toList,e.key=.int .i64 s)->∃e'∈(es.modify j fun e=>{ e with key:=.int .i64 x.s,val:=.int .u64 I }).toList,e'.key=.int .i64 s:=fun s ⟨e',d2,b2⟩=>by
    obtain⟨i,hi⟩:=bH_ d2
    by_cases z:j=i
    ·refine⟨_,u_ (i:=i) ((C i).trans (if_pos z)),?_⟩
     subst z;rw[J]at hi;have hi:=ah_ hi;exact q3.symm.trans ((congrArg MapEntry.key hi).trans b2)
    ·exact⟨e',u_ (i:=i) ((C i).trans ((if_neg z).trans hi)),b2⟩
   refine hex _ ?_
   rcases q_.1 O with q|q
   ·exact k2 t q H
   ·rw[c_.1 q]
    exact⟨e,u_ J,q3⟩
  ·refine ay_.2 fun a c ha hc d3=>?_
   have b3:∀i (hi:i < (es.modify j fun e=>{ e with key:=.int .i64 x.s,val:=.int .u64 I }).toList.length),∃h:i < es.toList.length,((es.modify j fun e=>{ e with key:=.int .i64 x.s,val:=.int .u64 I }).toList[i]).key=(es.toList[i]).key:=fun i hi=>by
    have h1:i < es.toList.length:=by simpa using hi
    refine⟨h1,?_⟩;have h2:=C i;rw[j_ hi]at h2
    by_cases z:j=i
    ·rw[if_pos z]at h2
     have h2:=ah_ h2;refine(congrArg MapEntry.key h2).trans ?_;subst z;obtain⟨_,ej⟩:=C_.1 J;rw[ej];exact q3.symm
    ·rw[if_neg z,j_ h1]at h2
     have h2:=ah_ h2;exact congrArg MapEntry.key h2
   obtain⟨a1,a2⟩:=b3 a ha;obtain⟨c1,c2⟩:=b3 c hc;rw[a2,c2];exact ay_.1 k3 a c a1 c1 d3
def HdAt (w:World) (g b:Nat) (l:List It):Prop:=TmAt w b l/\BoxO w 310 g [.map (some b)]
theorem cj6 {x:It} (h:∀t∈l,t.k=1->t.s≠x.s):hidden l x=false:=by
 unfold hidden;rw[ab_];intro t z;unfold It.hides
 by_cases o:t.k=1
 ·simp[o,h t z o]
 ·simp[o]
theorem zx5 {x:It} {v:Nat} (h:Mx l x.s v):hidden l x=(x.k==2&&decide (x.v<=v)):=by
 obtain⟨⟨t,t1,t2,t3,t4⟩,h2⟩:=h;unfold hidden
 by_cases o:x.k=2
 ·by_cases z:x.v<=v
  ·rw[show (x.k==2&&decide (x.v<=v))=true by simp[o,z]]
   exact aF_.2 ⟨t,t1,by simp[It.hides,t2,t3,o,t4,z]⟩
  ·rw[show (x.k==2&&decide (x.v<=v))=false by simp[z],ab_]
   intro u C;unfold It.hides
   by_cases h3:u.k=1
   ·by_cases h4:u.s=x.s
    ·have:=h2 u C h3 h4
     have h5:¬x.v<=u.v:=o_
     simp[h5]
    ·simp[h4]
   ·simp[h3]
 ·rw[show (x.k==2&&decide (x.v<=v))=false by simp[o],ab_]
  intro u C;simp[It.hides,o]
theorem ij4 (x:It) (g b:Nat) (l:List It) (w:World) (h:HdAt w g b l):Calls prog 234 #[x.val,g] w fun e w'=>e=.returned (.bool (hidden l x))/\Below w w w':=by
 obtain⟨hm,hb⟩:=h;obtain⟨H,E,t1,I,Q⟩:=x;have J:=hm.below (b_ w (.cells #[H,E,[t1],[I],Q] 33));obtain⟨v,ok,_,c2,c3,c4⟩:=J.look H;have c0:=(hb.alloc (.cells #[H,E,[t1],[I],Q] 33)).c0;have z:=b_ w (.cells #[H,E,[t1],[I],Q] 33);obtain⟨r,O⟩:=n_ (hidden l ⟨H,E,t1,I,Q⟩);rw[<-O];unfold It.val;simp only;clear hm J hb
 cases ok with
 |false=>
  have C:=H_ (O.trans (cj6 (c4 rfl).2));clear O c3 c4;go_enter func234,ntmps234;go_wp2;go_ret;exact⟨ik C.symm,z⟩
 |true=>
  have o:=O.trans (zx5 (c3 rfl));clear O c3 c4
  by_cases U:E=2
  ·subst U
   by_cases hv:(I:Int)<=(v:Int)
   ·have C:=H_ (o.trans (show _=true by simp;omega))
    clear o;go_enter func234,ntmps234;go_wp2;go_ret;exact⟨ik C.symm,z⟩
   ·have C:=H_ (o.trans (show _=false by simp;omega))
    clear o;go_enter func234,ntmps234;go_wp2;go_ret;exact⟨ik C.symm,z⟩
  ·have C:=H_ (o.trans (show _=false by simp[U]))
   have e1:(E==2)=false:=by simpa using U
   clear o;go_enter func234,ntmps234;go_wp2;go_ret;exact⟨ik C.symm,z⟩
theorem yw4 (A:Option Addr) (n c:Nat) (l:List It) (w:World) (hn:n<=1000000) (hr:Row w w A n 5 (itc l)):
  Calls prog 187 #[.slice A n c] w fun e w'=>∃g b,e=.returned (.func (.func 234) #[] #[.pointer (some ⟨g,0,none⟩)])/\HdAt w' g b l/\((w:Nat)<=g/\(w:Nat)<=b)/\Below w w w':=by
 have U:=hr.yw;have b2:=@run_makeMap prog;have h0:TmAt ((w.alloc (.map #[] 0)).alloc (.cells #[.map (some (w:Nat))] 310)) w []:=by
  refine⟨#[],0,?_,fun e he=>by simp at he,fun y hy=>by simp at hy,bi_⟩;rw[Below.heap_alloc _ _ _ s_,bI_]
 have a0:BoxO ((w.alloc (.map #[] 0)).alloc (.cells #[.map (some (w:Nat))] 310)) 310 ((w:Nat)+1) [.map (some (w:Nat))]:=by
  have h1:=BoxO.new (w.alloc (.map #[] 0)) #[.map (some (w:Nat))] 310;rw[F_]at h1;exact h1
 have a1:Below w w ((w.alloc (.map #[] 0)).alloc (.cells #[.map (some (w:Nat))] 310)):=
  ((Below.refl _ w).alloc l_ _).alloc s_ _
 have HH:=H_ (d_ h0 (d_ a0 a1));have a4:=H_ U;clear h0 a0 a1 U;go_enter func187,ntmps187;go_wp2
 go_loopw [9] (fun i wr=>∃k:Nat,k<=n/\i=.int .i64 k/\Hid (TmAt wr w (l.take k)/\BoxO wr 310 ((w:Nat)+1) [.map (some (w:Nat))]/\Below w w wr)) (fun i _=>n - (intOf i).toNat)
 case atStart=>exact⟨0,A_ _,rfl,HH⟩
 case round=>
  obtain⟨k,b7,rfl,Q⟩:=hrel
  by_cases a5:k < n
  ·obtain⟨p,hl,rfl,b9,e0,e1,e2,e3,e4⟩:=(hr.below Q.2.2).it a5
   have a6:(k:Int) < (n:Int):=o_
   have H:l.take (k+1)=l.take k++[l[k]]:=v_ hl;generalize l[k]=x at *;obtain⟨h1,h2,h3⟩:=Q.out;have I:=b_ wr (.cells #[x.s,x.k,[x.t],[x.v],x.x] 33);have z:=h1.below I;have C:=h2.alloc (.cells #[x.s,x.k,[x.t],[x.v],x.x] 33);have E:=az h3 I;have m0:=C.c0
   by_cases hx:x.k=1
   ·have a7:(x.k==1)=true:=by simpa using hx
    obtain⟨v,ok,c1,_,c3,c4⟩:=z.look x.s;obtain⟨o,c5,h4⟩:=z.put x hx v ok c3 c4;rw[<-H]at h4;have O:=jw1 (wr.alloc (.cells #[x.s,x.k,[x.t],[x.v],x.x] 33)) w o;clear hx;have HN:=H_ (d_ h4 (d_ (C.bq2 O s_) (E.grown O (by have:=E.size;omega) (fun g e=>by cases e;exact B_ _))));clear h4 O h1 z h2 C h3 E I H c3 c4 Q;go_wp2;go_roundw
    case rel=>exact⟨k+1,o_,by go_num,HN⟩
    case measure=>simp[intOf];omega
   ·have a7:(x.k==1)=false:=by simpa using hx
    have HN:=H_ (d_ (H▸z.skip hx) (d_ C E));clear h1 z h2 C h3 E I H Q;go_wp2;go_roundw
    case rel=>exact⟨k+1,o_,by go_num,HN⟩
    case measure=>simp[intOf];omega
  ·have a6:((k:Int) < (n:Int))=False:=eq_false o_
   have J:l.take k=l:=i_ (by have:=a4.out;omega);have hb:=Q.out;rw[J]at hb;have HF:=H_ hb;clear hb Q J;go_wp2;go_ret;exact⟨(w:Nat)+1,(w:Nat),rfl,⟨HF.1,HF.2.1⟩,⟨o_,B_ _⟩,HF.2.2⟩
end
theorem gv3 (a:It) (v b:Nat) (w:World) (J:w.cell? b=some (.int .u64 v)):
  Calls prog 128 (#[a.val] ++#[.pointer (some b)]) w fun e w'=>e=.returned (.bool (a.k==1&&decide (a.v<=v)))/\Below w w w':=by
 obtain⟨O,H,t1,I,Q⟩:=a;have z:=b_ w (.cells #[O,H,[t1],[I],Q] 33);have U:∀o,(w.alloc o).cell? b=some (.int .u64 v):=fun o=>(ap_ w o _ (S_ w _ J)).trans J;obtain⟨r,C⟩:=n_ ((H==1&&decide (I<=v)));unfold It.val;simp only;rw[<-C]
 by_cases h1:H=1
 ·subst h1
  by_cases h2:(I:Int)<=(v:Int)
  ·have E:=H_ (C.trans (show _=true by simp;omega))
   clear C;go_enter func128,ntmps128;go_wp2;go_ret;exact⟨ik E.symm,z⟩
  ·have E:=H_ (C.trans (show _=false by simp;omega))
   clear C;go_enter func128,ntmps128;go_wp2;go_ret;exact⟨ik E.symm,z⟩
 ·have e1:(H==1)=false:=by simpa using h1
  have E:=H_ (C.trans (show _=false by simp[h1]));clear C;go_enter func128,ntmps128;go_wp2;go_ret;exact⟨ik E.symm,z⟩
def xz1 (w:World) (R:List It) (e:Ending) (w':World):Prop:=∃A' k c',e=.returned (.slice A' k k)/\k=R.length/\w'.ownsRow w 33 5 (.slice A' k c') k (itc R)/\k<=c'/\c'<=maxLen/\Below w w w'
theorem aq2 {W:World} {b s n c:Nat} {t:TypeId} {A:Option Addr} {xs:List Value} (h:W.ownsRow b t s (.slice A n c) n xs):n<=c/\c<=maxLen/\∀a,A=some a->b<=a.block:=by
 obtain⟨P,c0,q1,o,z,C⟩:=ay h;injection q1 with q1 _ E;subst q1 E;exact⟨o,z,fun a H=>(C a H).1⟩
theorem zw2 {w w1:World} {A:Option Addr} (o:∀F,(∀a,A=some a->F=[a.block])->Chg F w w1):Chg (A.map (·.block)).toList w w1:=o _ fun a z=>by subst z;rfl
theorem TmAt.chg {w w1:World} {b:Nat} {l:List It} {G:List Nat} (h:TmAt w b l) (c:Chg G w w1) (o:b∉G):TmAt w1 b l:=by
 obtain⟨es,clock,h1,h2⟩:=h;exact⟨es,clock,(c.block b (E_.1 h1).1 o).trans h1,h2⟩
theorem gz2 {A:Option Addr} {g:Nat} (h:∀a,A=some a->a.block≠g):g∉(A.map (·.block)).toList:=by
 cases A with
 |none=>simp
 |some a=>simpa using fun e=>h a rfl e.symm
theorem clean_any (A:Option Addr) (n c:Nat) (l:List It) (w:World) (hn:n<=1000000) (hr:Row w w A n 5 (itc l)):
  Calls prog 127 #[.slice A n c] w (xz1 w (clean l)):=by
 obtain⟨i0,a1,a2,a4,a5⟩:=info_parts wz;have HR:=H_ hr;clear hr;go_enter func127,ntmps127;go_wp2_with (at_builtin;refine iq ?_);refine gz (yx rfl _ (.tmp 3) _ rfl (w:Nat) 33 i0 _ 5 40 underlying34 a1 a2 a4 a5 rfl o_ w b0_ l_ rfl (w:Nat) A n c (itc l) rfl HR.out (ax1 l) (by unfold maxLen;omega) o_ ?_);intro A1 c1 w1 h1 h2 h3 h4 h5;have H:=yw4 A n c l w1 hn ((HR.below h2).up h2.size);have HH:=H_ H;have U:=H_ (d_ h1 h2);clear H h1 h2 h3;go_wp2_with fail;refine HH.mono ?_;rintro e w2 ⟨g,b,rfl,hh,⟨hg,hb⟩,o⟩;have I:=own_below U.1 o;have z:=az U.2 o;have C:∀a,A1=some a->a.block < (w1:Nat):=fun a J=>(U.1.lt a.block (by subst J;rfl)).2;have O:=sj1 234 (fun _ _=>rfl) #[g] (fun x=>hidden l x) w A1 n c1 c1 l w2 hn h4 l_ z.size I (fun x w3 hc=>by
  have c3:=zw2 hc;exact ij4 x g b l w3 ⟨hh.1.chg c3 (gz2 fun a J=>by have:=C a J;omega),hh.2.chg c3 (gz2 fun a J=>by have:=C a J;omega)⟩)
 have HD:=H_ O;have HW:=H_ z;clear O I hh o C HH U z;go_wp2_with fail;refine HD.mono ?_;rintro e w3 ⟨k,A3,rfl,hk,E,Q⟩;obtain⟨q2,q3,_⟩:=aq2 E;have HC:=H_ (jv1 A3 k c1 w3 q2);have H3:=H_ (show xz1 w (clean l) (.returned (.slice A3 k k)) w3 from ⟨A3,k,c1,rfl,hk,E,q2,q3,HW.trans Q⟩);clear hk E Q HD HW;go_wp2_with fail;refine HC.mono ?_;rintro e w4 ⟨rfl,rfl⟩;go_wp2;go_ret;exact H3
theorem jz2 (A:Option Addr) (n c:Nat) (l:List It) (v:Nat) (w:World) (hn:n<=1000000) (hr:Row w w A n 5 (itc l)):
  Calls prog 58 #[.slice A n c,[v]] w (xz1 w (rx1 (clean l) v)):=by
 have o:=b_ w (.cells #[[v]] 22);have O:=BoxO.new w #[[v]] 22;have Q:=clean_any A n c l (w.alloc (.cells #[[v]] 22)) hn ((hr.below o).up o.size);have U:(clean l).length<=1000000:=g_ (aw_ _ _) (by have:=hr.yw;omega);have HC:=H_ Q;have HX:=H_ (d_ o O);have HL:=H_ U;clear Q o O hr U;go_enter func58,ntmps58;go_wp2_with fail;refine HC.mono ?_;rintro e w1 ⟨A1,k1,c1,rfl,a0,E,a',b',H⟩;have a1:=H_ a0;clear a0;have C:=HX.2.below H;have I:=az HX.1 H;have b0:(w:Nat) < (w.alloc (.cells #[[v]] 22)).heap.size:=by rw[F_];omega
 have a2:∀a,A1=some a->a.block≠(w:Nat):=fun a ha=>by
  have:=(aq2 E).2.2 a ha;omega
 have a4:=sj1 128 (fun _ _=>rfl) #[(w:Nat)] (fun x=>x.k==1&&decide (x.v<=v)) w A1 k1 k1 c1 (clean l) w1 (by rw[a1.out];exact HL) l_ a' I.size (own_base E o_) (fun x w3 hc=>gv3 x v w w3 (by
  have z:=C.chg (zw2 hc) (gz2 a2);exact z.cell 0))
 have HD:=H_ a4;have HW:=H_ I;clear a4 E C H a2 b0 HC HX I;go_wp2_with fail;refine HD.mono ?_;rintro e w3 ⟨k,A3,rfl,hk,J,z⟩;obtain⟨q2,q3,_⟩:=aq2 J;have b3:k<=k1:=by rw[hk,a1.out];exact aw_ _ _
 have HC:=H_ (jv1 A3 k k1 w3 b3);have H3:=H_ (show xz1 w (rx1 (clean l) v) (.returned (.slice A3 k k)) w3 from ⟨A3,k,c1,rfl,hk,J,q2,q3,HW.trans z⟩);clear hk J z HD HW;go_wp2_with fail;refine HC.mono ?_;rintro e w4 ⟨rfl,rfl⟩;go_wp2;go_ret;exact H3
section
end
section
end
section
end
section
end
section
end
end Go.Proofs.YtfbkjjdfboagfaaGreatDoor
