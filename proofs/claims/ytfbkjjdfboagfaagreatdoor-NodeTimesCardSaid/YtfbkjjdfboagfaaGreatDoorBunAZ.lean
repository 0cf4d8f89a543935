/- Some of the texts. No conditions. -/
import Derived.Test.YtfbkjjdfboagfaaGreatDoorBunAV
import Derived.Test.YtfbkjjdfboagfaaGreatDoorBunAW

set_option linter.unusedSimpArgs false
set_option linter.unusedVariables false
set_option maxRecDepth 100000
set_option maxHeartbeats 16000000
namespace Go.Proofs.YtfbkjjdfboagfaaGreatDoor
open Go.Proofs.Tryz Go Go.RowKit Go.Lib Go.Shelf
attribute [local go_sem] Oper.semAt_some
variable {w w1 w2:World} {X X1 X2:Dw} {S S1 S2:Sd} {Y Y1 Y2:Yw} {V V1 V2:Sv} {nb now grace:Nat} {ni:Int}
def St.last (S:Sd) (V:Sv) (l:List It):Sd×Sv×Bool:=
 if joins V.st l=V.st then ((St.sync S V).1,(St.sync S V).2.1,(St.sync S V).2.2==0) else
 if (St.apply S V l).2.2≠0 then ((St.apply S V l).1,(St.apply S V l).2.1,false) else
 ((St.sync (St.apply S V l).1 (St.apply S V l).2.1).1,(St.sync (St.apply S V l).1 (St.apply S V l).2.1).2.1,(St.sync (St.apply S V l).1 (St.apply S V l).2.1).2.2==0)
theorem iq2 {g:Nat} {b:Bool} (h:BoxO w 4 g [.bool b]):cv4 w [g]:=fun a C v o=>by
 unfold World.cell? at o;rw[c_.1 C,show w.heap[g]?=_ from h]at o;simp only at o;split at o
 ·cases o
 ·cases z:a.off with
  |zero=>rw[z]at o;exact⟨b,by simpa using o.symm⟩
  |succ k=>rw[z]at o;simp at o
theorem St.bz3 (S:Sd) (V:Sv):(St.sync S V).2.1.tabs=V.tabs:=by
 unfold St.sync;split
 ·rfl
 ·split<;>rfl
theorem St.bw4 (S:Sd) (V:Sv) (l:List It):(St.apply S V l).2.1.tabs=V.tabs:=by
 unfold St.apply;simp only
 repeat' split
 all_goals rfl
theorem bv6 (er:Nat):((er:Int)==0)=((er==0:Bool)):=by
 by_cases h:er=0
 ·subst h;rfl
 ·rw[beq_eq_false_iff_ne.2 h,beq_eq_false_iff_ne];omega
theorem dv1.said {W w0:World} {g:Nat} (h:dv1 X Y W w1 S1 V1 nb ni now grace) (O:Below w0 w0 W) (ht:V1.tabs=[]) (Q:(w0:Nat)<=g) (U:NG<=g) (a0:g≠nb) (o:g∉XY X Y) (C:BoxO W 4 g [.bool false]) (v:Value):dv1 X Y w0 (w1.setCell g v) S1 V1 nb ni now grace:=by
 obtain⟨X1,Y1,e,es,h1,c,f,na⟩:=h;have E:=C.chg c o;have a4:=C.lt;have H:g∉XY X1 Y1:=fun hm=>by
  rcases f g hm with q|q
  ·exact o q
  ·omega
 have I:Chg [g] w1 (w1.setCell g v):=(Chg.refl [g] w1).setCell _ (.inl s_);have h2:=h1.tick ht (iq2 E) I (fun x J=>by rw[c_.1 J];exact⟨H,U,E.lt,a0⟩);exact⟨X1,Y1,e,es,h2,((Chg.of_below O _).trans c (fun g hg=>.inl hg)).trans I (fun x J=>by rw[c_.1 J];exact .inr Q),fun x J=>(f x J).imp (fun z=>z) (g_ O.size),na.imp (fun z=>z) (fun z a ha=>g_ O.size (z a ha))⟩
theorem mz4 (h:NdAt w X S Y V nb ni now grace) (hN:Nrm V) (A:Option Addr) (n c:Nat) (l:List It) (hn:n<=1000) (hr:Row w w A n 5 (itc l)) (hj:joins V.st l=V.st):
  Calls prog 22 #[nb,.slice A n c] w fun e w'=>e=.returned (.bool (St.last S V l).2.2)/\dv1 X Y w w' (St.last S V l).1 (St.last S V l).2.1 nb ni now grace:=by
 have C:=b_ w (.cells #[nb] 25);have o:=C.alloc s_ (.cells #[.bool false] 4);have O:=(BoxO.new w #[nb] 25).alloc (.cells #[.bool false] 4);have Q:=BoxO.new (w.alloc (.cells #[nb] 25)) #[.bool false] 4;rw[F_]at Q;have h2:=h.below o;have f6:=hr.yw;have a':=h.at_.lt;have b0:=h.box.lt;have H:=h.at_.dm.env.base;obtain⟨W,hW⟩:=n_ ((w.alloc (.cells #[nb] 25)).alloc (.cells #[.bool false] 4));obtain⟨R,hR⟩:=n_ (St.last S V l);rw[<-hR];unfold St.last at hR;rw[if_pos hj]at hR;rw[<-hW]at o O Q h2;have k1:=h2.box.c1;have t2:=O.c0;have d8:=k1;have d9:=t2;rw[hW]at k1 t2;have b5:=fy1 h2.at_ (by have:=hN.len;omega);have b6:=H_ b5;have H2:=H_ h2;have HX:=H_ (d_ O Q);have HB:=H_ o;have HR:=H_ hR;have b7:=H_ ((hr.below o).up o.size);have HM:=H_ (d_ a' (d_ b0 H));have HJ:=H_ hj;have b8:=H_ (h.at_.alen);clear b5 h2 O Q o C hR hr a' b0 H h hj;go_enter func22,ntmps22;go_wp2_with fail;rw[<-hW];have HW:=H_ hW;clear k1 t2 hW
 refine m_ b6 ?_
 rintro e w1 ⟨A1,c1,rfl,a2,C⟩;obtain⟨g8,g',hv,U,a0,_⟩:=ay a2;injection hv with q1 q2 q3;subst q1 q3;have E:=Row.own a2;have a4:=uy1 A1 Y.A.n c1 V.st A n c l w1 (by have:=hN.len;have:=b8.out;omega) U a0 hN.st E ((b7.below C).up C.size);rw[HJ.out]at a4;have b9:=H_ a4;have b':=H_ E;have d':=H_ C;clear a4 E C a2 U a0 b6;go_wp2_with fail
 refine m_ b9 ?_
 rintro e w2 ⟨A2,m2,rfl,a5,c9,o⟩;have a6:=by3 A1 Y.A.n c1 V.st A2 m2 m2 V.st w2 (by have:=hN.len;have:=b8.out;omega) (by have:=hN.len;omega) ((b'.below o).up o.size) c9.row;rw[decide_eq_true (rfl:V.st=V.st)]at a6;have d0:=H_ a6;have e0:=H_ (az d'.out o);clear a6 c9 o a5 b9 b';go_wp2_with fail
 refine m_ d0 ?_
 rintro e w3 ⟨rfl,d1⟩;have z:=az e0.out d1;have h3:=H2.below z;have d2:=HX.1.below z;have d3:=HX.2.below z;have k1:=h3.box.c1;have t2:=d2.c0;have e1:=H_ (iv3 h3.at_ hN.nm);have H3:=H_ h3;have d4:=H_ d3;have e2:=H_ (HB.trans (z.mono HB.size));clear d1 z h3 d2 d3 d0 d8 d9;go_wp2_with fail
 refine m_ e1 ?_
 rintro e w4 ⟨rfl,hu⟩;have d5:=H3.upd hu;obtain⟨d6,a5,e4⟩:=HM.out;have a7:(w:Nat)+1∉XY X Y:=fun hm=>by have:=d6 _ hm;omega
 have I:=fun v=>d5.said (g:=(w:Nat)+1) e2.out (by rw[St.bz3];exact hN.tabs) o_ o_ o_ a7 d4.out v;have a8:=d4.chg hu.c a7;have c5:=a8.c0;have f5:=a8.free 0;have HZ:=H_ I;have a9:=bv6 (St.sync S V).2.2;have J:=HR.out;obtain⟨s1,s2,er,hs⟩:∃s1 s2 er,St.sync S V=(s1,s2,er):=⟨_,_,_,rfl⟩;rw[hs]at HZ J a9 ⊢;simp only at HZ J a9 ⊢;obtain⟨b,hb⟩:=n_ ((er==0));rw[<-hb]at J a9;have e6:=H_ J;clear I d5 hu J hs hb a8 d6 a5 e4 a7 k1 t2;go_wp2;refine bodyPost_ret (v:=.bool b) (by simp[results,go_sem, *]) rfl ?_;rw[e6.out];exact⟨rfl,HZ.out _⟩
section
attribute [local go_sem] Oper.semAt_some
variable {w w1 w2:World} {X X1 X2:Dw} {S S1 S2:Sd} {Y Y1 Y2:Yw} {V V1 V2:Sv} {nb now grace:Nat} {ni:Int}
theorem dw1.dv6 {B:Nat} (h:dw1 B w):cv4 w [B,B+1]:=fun a z v o=>by
 obtain⟨h1,r,h2⟩:=h;unfold World.cell? at o
 rcases h_.1 z with e|e
 ·rw[e,h1]at o
  cases o
 ·rw[c_.1 e,h2]at o
  cases o
def ox3 (X:Dw) (Y:Yw) (w0:World) (B g:Nat) (nb:Nat) (ni:Int) (now grace:Nat) (S1:Sd) (V1:Sv) (W:World):Prop:=∃X1 Y1,X1.d=X.d/\Y1.s=Y.s/\NdAt W X1 S1 Y1 V1 nb ni now grace/\Chg (XY X Y) w0 W/\(∀g∈XY X1 Y1,g∈XY X Y\/(w0:Nat)<=g)/\(B∉XY X1 Y1/\B+1∉XY X1 Y1/\g+1∉XY X1 Y1)/\dw1 B W/\V1.tabs=[]/\((w0:Nat)<=g/\g+1 < B/\nb < g/\NG<=g/\NewA w0 Y Y1)/\BoxO W 25 g [nb]/\BoxO W 4 (g+1) [.bool false]
theorem ox3.step {w0:World} {B g:Nat} (h:ox3 X Y w0 B g nb ni now grace S1 V1 w1) (c:Chg [B,B+1] w1 w2) (I:dw1 B w2):ox3 X Y w0 B g nb ni now grace S1 V1 w2:=by
 obtain⟨X1,Y1,e,es,h1,J,O,C,o,H,Q,U,x2⟩:=h;have a1:=o.lt;refine⟨X1,Y1,e,es,h1.tick H o.dv6 c (fun y z=>?_),J.trans c (fun y z=>.inr ?_),O,C,I,H,Q,U.chg c (fun E=>by simp at E;omega),x2.chg c (fun E=>by simp at E;omega)⟩
 ·rcases h_.1 z with rfl|z
  ·exact⟨C.1,o_,o_,o_⟩
  ·rw[c_.1 z]
   exact⟨C.2.1,o_,o_,o_⟩
 ·simp at z
  omega
theorem nq4 (h:NdAt w X S Y V nb ni now grace) (hN:Nrm V) (A:Option Addr) (n c:Nat) (l:List It) (h0:0 < n) (hn:n<=1000) (n5:n<=c) (hr:Row w w A n 5 (itc l)) (hA:∀a,A=some a->a.block∉XY X Y) (k4:∀x∈l,x.fit) (hj:joins V.st l≠V.st):
  Calls prog 22 #[.pointer (some nb),.slice A n c] w fun e w'=>e=.returned (.bool (St.last S V l).2.2)/\dv1 X Y w w' (St.last S V l).1 (St.last S V l).2.1 nb ni now grace:=by
 have b1:=b_ w (.cells #[.pointer (some nb)] 25);have C:=b1.alloc s_ (.cells #[.bool false] 4);have b8:=(BoxO.new w #[.pointer (some nb)] 25).alloc (.cells #[.bool false] 4);have e7:=BoxO.new (w.alloc (.cells #[.pointer (some nb)] 25)) #[.bool false] 4;rw[F_]at e7;have h2:=h.below C;have i3:=hr.yw;have i4:=h.at_.lt;have k5:=h.box.lt;have d2:=h.at_.dm.env.base;obtain⟨W,hW⟩:=n_ ((w.alloc (.cells #[.pointer (some nb)] 25)).alloc (.cells #[.bool false] 4));obtain⟨R,hR⟩:=n_ (St.last S V l);rw[<-hR];unfold St.last at hR;rw[if_neg hj]at hR;rw[<-hW]at C b8 e7 h2;have k1:=h2.box.c1;have t2:=b8.c0;have q7:=k1;have q8:=t2;rw[hW]at k1 t2;have a5:=fy1 h2.at_ (by have:=hN.len;omega);have k8:=H_ a5;have H2:=H_ h2;have HX:=H_ (d_ b8 e7);have HB:=H_ C;have HR:=H_ hR;have d3:=H_ ((hr.below C).up C.size);have HM:=H_ (d_ i4 (d_ k5 d2));have HJ:=H_ hj;have k9:=H_ (h.at_.alen);clear a5 h2 b8 e7 C b1 hR hr i4 k5 d2 h hj;refine(callsIn_wide (n:=6)).1 ?_;refine callsIn_of_wp_marks func22 rfl trivial ?_ rfl;simp only[ntmps22,az_,r_,R_,Nat.reduceAdd,Nat.reduceSub,a0_,a1_,bf_,a7_,D_,U_]
 gi_wp2_with fail
 rw[<-hW];have HW:=H_ hW;clear k1 t2 hW;refine⟨trivial,?_⟩
 with_reducible refine(callsIn_wide.2 k8.out).mono ?_
 rintro e w1 ⟨A1,c1,rfl,i5,b1⟩;obtain⟨r1,r2,hv,g8,g',_⟩:=ay i5;injection hv with q1 q2 q3;subst q1 q3;have b2:=Row.own i5;have i6:=uy1 A1 Y.A.n c1 V.st A n c l w1 (by have:=hN.len;have:=k9.out;omega) g8 g' hN.st b2 ((d3.below b1).up b1.size);have k':=lq3 l V.st;obtain⟨J,hJ⟩:=n_ (joins V.st l);rw[<-hJ]at i6 k';have l1:=H_ i6;have l3:=H_ b2;have n9:=H_ b1;have n':=H_ hJ;clear i6 b2 b1 i5 g8 g' k8 hJ
 gi_wp2_with fail
 refine⟨trivial,?_⟩
 with_reducible refine(callsIn_wide.2 l1.out).mono ?_
 rintro e w2 ⟨A2,m2,rfl,d4,l4,C⟩;have i7:=by3 A1 Y.A.n c1 V.st A2 m2 m2 J w2 (by have:=hN.len;have:=k9.out;omega) (by have:=hN.len;omega) ((l3.below C).up C.size) l4.row;rw[decide_eq_false (show ¬V.st=J from fun e=>HJ.out (by rw[<-n'.out];exact e.symm))]at i7;have l5:=H_ i7;have o0:=H_ (az n9.out C);clear i7 l4 C d4 l1 l3 k'
 gi_wp2_with fail
 refine⟨trivial,?_⟩
 with_reducible refine(callsIn_wide.2 l5.out).mono ?_
 rintro e Q ⟨rfl,l6⟩;have a6:=H_ (az o0.out l6);clear l6 l5
 gi_wp2_with (refine⟨trivial,?_⟩;gi_at_call 65;refine(ty2 Fence.wide 5 trivial rfl A n c 1000 o_ _).mono ?_;rintro e w' ⟨rfl,rfl⟩)
 have bS:=BoxO.new Q #[.slice A n c] 34;have bM:=BoxO.new (Q.alloc (.cells #[.slice A n c] 34)) #[.int .i64 ((1000:Nat):Int)] 3;rw[F_]at bM;have a7:=(b_ Q (.cells #[.slice A n c] 34)).alloc s_ (.cells #[.int .i64 ((1000:Nat):Int)] 3);obtain⟨p,rfl⟩:∃p,A=some p:=by
  obtain⟨a,_,e,_⟩:=d3.it h0;exact⟨a,e⟩
 have a5:=bq3 Fence.wide 5 trivial rfl o_ Q ((Q:Nat)+1) (fun W W'=>W'.heap[(Q:Nat)]?=W.heap[(Q:Nat)]?/\W'.heap[(Q:Nat)+1]?=W.heap[(Q:Nat)+1]?) (fun W W' h=>⟨X_ h.1,X_ h.2⟩) p (some p) n c 1000 (fun _=>rfl) l i3 o_ o_ o_ n5 (N:=1) (fun k hk=>o_) ((Q.alloc (.cells #[.slice (some p) n c] 34)).alloc (.cells #[.int .i64 ((1000:Nat):Int)] 3)) (by simp;omega) s_ ((bS.alloc (.cells #[.int .i64 ((1000:Nat):Int)] 3)).cell 0) (bM.cell 0);rw[show ((1000:Nat):Int)=(1000:Int) from rfl]at a5 a7;obtain⟨W4,i8⟩:=n_ ((Q.alloc (.cells #[.slice (some p) n c] 34)).alloc (.cells #[.int .i64 1000] 3));have a8:(W4:Nat)=(Q:Nat)+2:=by rw[i8];simp
 rw[<-i8]at a5 a7 ⊢;have l8:=HX.1.below a6;have i9:=HX.2.below a6;have l9:=(l8.below a7);have b9:=(i9.below a7);have h4:=(H2.below a6).below a7;have l':Below w w W4:=HB.trans ((az a6.out a7).mono HB.size);have hcut:Tb.cut 1000 n l=[l]:=by
  have:l≠[]:=fun e=>by rw[e]at i3;simp at i3;omega
  obtain⟨k,rfl⟩:∃k,n=k+1:=⟨n - 1,o_⟩;unfold Tb.cut;rw[if_neg this,i_ o_,aC_ o_]
  cases k<;>simp[Tb.cut]
 have r4:(w:Nat)+1 < (Q:Nat):=by have:=i9.lt;exact this
 have m0:=H_ (d_ l9 b9);have H4:=H_ h4;have m1:=H_ l';have i':=H_ a8;clear i8 a8 l8 i9 l9 b9 h4 l' bS bM;refine iy1 (α:=Ck 1000 n) (n:=6) (encs:=fun x=>#[Ck.val p x]) rfl o_ (gf:=132) (lb:=#[.pointer (some (Q:Nat)),.pointer (some ⟨(Q:Nat)+1,0,none⟩)]) rfl trivial (enters_of func132 (by kernel_rfl) rfl) a5 (fun h k=>⟨k.1.trans h.1,k.2.trans h.2⟩) ?hKb b0_ (fun _=>rfl)
  (fun pre W=>(pre=[]/\Below W4 W4 W)\/(pre.length=1/\(St.apply S V l).2.2=0/\ox3 X Y w W4 w nb ni now grace (St.apply S V l).1 (St.apply S V l).2.1 W))
  (fun c pre W=>c=.ret/\(St.apply S V l).2.2≠0/\ox3 X Y w W4 w nb ni now grace (St.apply S V l).1 (St.apply S V l).2.1 W) ?hI ?hIx (.inl ⟨rfl,Below.refl _ _⟩)
  (fun x=>{ tmps:=#[.pointer (some nb),.slice (some p) n c,.pointer (some (w:Nat)),undef,.pointer (some ⟨(w:Nat)+1,0,none⟩),.slice A1 Y.A.n c1,Ck.val p x,.pointer (some nb),.pointer (some nb),.pointer (some ⟨nb,1,none⟩),.pointer (some Y.s),.slice A1 Y.A.n c1,.slice A1 Y.A.n c1,.slice A1 Y.A.n c1,.slice (some p) n c,.slice A2 m2 m2,.bool false,.bool true,.slice (some p) n c,.func (.func 132) #[] #[.pointer (some (Q:Nat)),.pointer (some ⟨(Q:Nat)+1,0,none⟩)],Ck.val p x,undef,undef,undef,undef,undef,undef,undef,undef,undef,undef,undef,undef,undef],defers:=[] }) ?assig ?body ?done ?stop
 case hKb=>
  have a8:=i'.out;intro W l2 o' hl;exact⟨O_ o_,O_ o_⟩
 case hI=>
  rintro pre W W' (⟨h1,h2⟩|⟨h1,h2,h3⟩) hc hl
  ·exact .inl ⟨h1,h2.trans (hc.below h2.size (fun g U=>by simp at U;omega))⟩
  ·exact .inr ⟨h1,h2,h3.step hc hl⟩
 case hIx=>
  rintro c2 pre W W' ⟨h1,h2,h3⟩ hc hl;exact⟨h1,h2,h3.step hc hl⟩
 case assig=>
  intro l2 x W K hK
  gi_wp2
  exact hK
 case body=>
  have a8:=i'.out;rintro l2 pre x W5 E hI i4 _;obtain⟨rfl,b3⟩:=hI.resolve_right (fun h=>o_);have b8:x.1=0:=by have:=x.2;omega
  have hv:Ck.val p x=.slice (some p) n n:=by
   unfold Ck.val Ck.len;rw[b8];simp only[Nat.zero_mul,Nat.sub_zero];rw[Nat.min_eq_right o_];rfl
  have h5:=H4.below b3;have b9:=m0.1.below b3;have a0:=m0.2.below b3;have k1:=h5.box.c1;have t2:=b9.c0;have t4:=a0.c0;have f4:=a0.free 0;have m4:=(d3.below (a6.trans ((az b0_ a7).mono a6.size)));have d6:=mz3 h5.at_ (some p) n n l o_ ((m4.below (b3.mono (by have:=a6.size;omega))).up (g_ a6.size (g_ a7.size b3.size))) hA k4 hN.st (by have:=hN.len;omega) (by have:=hN.sz;omega) (by have:=hN.ct;omega) (by have:=hN.mem;omega) hN.nm;obtain⟨r,hr⟩:=n_ (St.apply S V l);have a2:=St.bw4 S V l;rw[<-hr]at d6 a2 ⊢;obtain⟨S1,V1,er⟩:=r;unfold az1 at d6;simp only at d6 a2 ⊢;have d7:=H_ E;have H5:=H_ h5;have d8:=H_ (d_ b9 a0);have o3:=H_ d6;have o4:=H_ b3;have HT:=H_ a2;clear d6 hr b3 b9 a0 h5 E m4 a5 hI a2;rw[hv];clear a8
  gi_wp2_with fail
  refine⟨trivial,?_⟩
  with_reducible refine(CallsIn.inRound l2 (callsIn_wide.2 o3.out)).mono ?_
  rintro e o ⟨rfl,hu⟩;have a8:=i'.out;have e9:=H5.at_.lt;have m6:=d8.2.lt;have i0:=d7.lt;obtain⟨j0,d4,j2⟩:=HM.out;have H:∀g,(w:Nat)<=g->g∉XY X Y:=fun g U hm=>by have:=j0 g hm;omega
  have hc:=hu.c;have i1:=hc.size;have I:zv1 W4 W5 o:=⟨hc.block _ o_ (H _ o_),hc.block _ o_ (H _ o_)⟩;have j3:o.heap[(Q:Nat)]?=W5.heap[(Q:Nat)]?/\o.heap[(Q:Nat)+1]?=W5.heap[(Q:Nat)+1]?:=⟨hc.block _ o_ (H _ o_),hc.block _ o_ (H _ o_)⟩;have d9:dw1 W4 o:=⟨(hc.block _ o_ (H _ o_)).trans d7.1,d7.2.imp fun r h=>(hc.block _ o_ (H _ o_)).trans h⟩;have j4:=d8.1.chg hc (H _ l_);have d':=d8.2.chg hc (H _ o_);have r6:=d'.c0;have r7:=d'.free 0;have f0:ox3 X Y w W4 w nb ni now grace S1 V1 o:=by
   obtain⟨X1,Y1,e,es,h1,c,f,na⟩:=H5.upd hu;have j5:=m1.trans (o4.mono m1.size);have b':∀g,(w:Nat)<=g->g < (W5:Nat)->g∉XY X1 Y1:=fun g U hl hm=>by
    rcases f g hm with q|q
    ·exact H g U q
    ·omega
   exact⟨X1,Y1,e,es,h1,(Chg.of_below j5 _).trans c (fun g U=>.inl U),fun g U=>(f g U).imp (fun z=>z) (g_ j5.size),⟨b' _ o_ o_,b' _ o_ o_,b' _ o_ o_⟩,d9,by rw[HT.out];exact hN.tabs,⟨B_ _,o_,d4,j2,na.imp (fun z=>z) (fun z a ha=>g_ j5.size (z a ha))⟩,j4,d'⟩
  have o6:=H_ f0;have m8:=H_ (d_ I j3)
  by_cases h0:er=0
  ·subst h0
   clear a8 i1 f0 I j3 d9 j4 d' hc e9 m6 i0 j0 d4 j2 H hu t4 f4 k1 t2
   gi_wp2
   exact⟨m8.1,m8.2,.inr ⟨rfl,o6⟩⟩
  ·have e1:((er:Int)==0)=false:=by simp;omega
   have m9:ox3 X Y w W4 w nb ni now grace S1 V1 (o.setCell ⟨(w:Nat)+1,0,none⟩ (.bool false)):=by
    obtain⟨X1,Y1,e,es,h1,c,f,hb,E,ht,U,x1,x2⟩:=f0;have O:Chg [(w:Nat)+1] o (o.setCell ⟨(w:Nat)+1,0,none⟩ (.bool false)):=(Chg.refl _ o).setCell _ (.inl s_);have c9:∀g,g≠(w:Nat)+1->g∉[(w:Nat)+1]:=fun g U hm=>U (c_.1 hm);exact⟨X1,Y1,e,es,h1.tick ht (iq2 x2) O (fun y hy=>by rw[c_.1 hy];exact⟨hb.2.2,o_,x2.lt,o_⟩),c.trans O (fun y hy=>by rw[c_.1 hy];exact .inr o_),f,hb,⟨(O.block _ o_ (c9 _ o_)).trans E.1,E.2.imp fun r h=>(O.block _ o_ (c9 _ o_)).trans h⟩,ht,U,x1.chg O (c9 _ o_),x2.store 0 (.bool false)⟩
   have i2:zv1 W4 W5 (o.setCell ⟨(w:Nat)+1,0,none⟩ (.bool false)):=by
    have O:Chg [(w:Nat)+1] o (o.setCell ⟨(w:Nat)+1,0,none⟩ (.bool false)):=(Chg.refl _ o).setCell _ (.inl s_);exact⟨(O.block _ o_ (by simp;omega)).trans I.1,(O.block _ o_ (by simp;omega)).trans I.2⟩
   have f2:=H_ m9;have m':=H_ i2;have H0:=H_ h0;clear a8 i1 f0 I j3 d9 j4 d' hc e9 m6 i0 j0 d4 j2 H hu t4 f4 k1 t2 m9 i2 h0
   gi_wp2
   exact⟨m',rfl,H0,f2⟩
 case done=>
  rintro D ys W5 hD j7 hI hK f3;obtain⟨o7,f5,X1,Y1,e,es,h5,c,f,hb,E,ht,U,x1,x2⟩:=hI.resolve_left (fun h=>by
   rw[h.1,hcut]at j7
   cases j7)
  have k1:=h5.box.c1;have t2:=x1.c0;have n0:=iv3 h5.at_ (by
   have:(St.apply S V l).2.1.nm=V.nm:=by
    unfold St.apply;simp only
    repeat' split
    all_goals rfl
   rw[this];exact hN.nm)
  have j8:=H_ n0;clear n0 hI a5;obtain⟨r,hr⟩:=n_ (St.apply S V l);rw[<-hr]at f5 h5 ht j8;have a4:=HR.out;rw[<-hr]at a4;obtain⟨S1,V1,er⟩:=r;simp only at f5 h5 ht j8 a4;rw[if_neg (by simp[f5])]at a4;have o8:=H_ a4;have H5:=H_ h5;have HC:=H_ (d_ e (d_ es (d_ c (d_ f (d_ hb U)))));have d8:=H_ (d_ x1 x2);have d7:=H_ E;have HT:=H_ ht;have o9:=H_ f3;have HK:=H_ hK;clear a4 h5 e es c f hb U x1 x2 E ht f3 hK f5 hr j7 o7 hD
  gi_wp2_with fail
  refine⟨trivial,?_⟩
  with_reducible refine(callsIn_wide.2 j8.out).mono ?_
  rintro e o ⟨rfl,hu⟩;have f7:=H5.upd hu;obtain⟨e,es,c,f,hb,U⟩:=HC.out;have e0:=d7.lt;have e9:=H5.at_.lt;have a0:=d8.2.chg hu.c hb.2.2;have c4:=a0.c0;have f4:=a0.free 0;have j9:=bv6 (St.sync S1 V1).2.2;have a2:=St.bz3 S1 V1;obtain⟨s2,v2,p2,hs⟩:∃s1 s2 er,St.sync S1 V1=(s1,s2,er):=⟨_,_,_,rfl⟩;have e3:=o8.out;rw[hs]at f7 e3 j9 a2 ⊢;simp only at f7 e3 j9 a2 ⊢;obtain⟨b,n1⟩:=n_ ((p2==0));rw[<-n1]at e3 j9;have j':=H_ e3;have f8:=o9.out;have k0:o.heap[D]?=some (.deferred (some [])):=(hu.c.block D (by rw[f8];omega) (by rw[f8];exact hb.1)).trans HK;have f9:∀v,(o.setCell ⟨(w:Nat)+1,0,none⟩ v).heap[D]?=some (.deferred (some [])):=fun v=>(((Chg.refl [(w:Nat)+1] o).setCell (p:=⟨(w:Nat)+1,0,none⟩) v (.inl s_)).block D (E_.1 k0).1 (fun hm=>by have:=c_.1 hm;omega)).trans k0;have a':∀v,dv1 X Y w ((o.setCell ⟨(w:Nat)+1,0,none⟩ v).putObj D (.deferred none)) s2 v2 nb ni now grace:=fun v=>by
   obtain⟨X2,Y2,e2,p3,h6,c6,f6,n6⟩:=f7;have b':∀y,y∉XY X1 Y1->y < (W5:Nat)->y∉XY X2 Y2:=fun y h1 h2 hm=>by
    rcases f6 y hm with q|q
    ·exact h1 q
    ·omega
   have n2:v2.tabs=[]:=by rw[a2];exact HT
   have O:Chg [(w:Nat)+1] o (o.setCell ⟨(w:Nat)+1,0,none⟩ v):=(Chg.refl _ o).setCell _ (.inl s_);have h7:=h6.tick n2 (iq2 a0) O (fun y hy=>by rw[c_.1 hy];exact⟨b' _ hb.2.2 o_,o_,a0.lt,o_⟩);have d0:Chg [D] (o.setCell ⟨(w:Nat)+1,0,none⟩ v) ((o.setCell ⟨(w:Nat)+1,0,none⟩ v).putObj D (.deferred none)):=⟨rfl,rfl,rfl,by simp,fun y _ hy=>O_ (fun e=>hy (by simp[e]))⟩;have h8:=h7.tick n2 (G:=[D]) (fun a ha u hu=>by
    unfold World.cell? at hu;rw[c_.1 ha,f9 v]at hu
    cases hu) d0 (fun y hy=>by rw[c_.1 hy];exact⟨by rw[f8];exact b' _ hb.1 o_,o_,(E_.1 (f9 v)).1,o_⟩)
   exact⟨X2,Y2,e2.trans e,p3.trans es,h8,((c.trans c6 f).trans O (fun y hy=>by rw[c_.1 hy];exact .inr o_)).trans d0 (fun y hy=>by rw[c_.1 hy];exact .inr o_),fun y hy=>by
    rcases f6 y hy with q|q
    ·exact f y q
    ·exact .inr (g_ c.size q),U.2.2.2.2.trans n6 c.size⟩
  have e4:=H_ a';have f2:=H_ f9;clear a' f9 k0 f8 f7 hu e es c f hb U e0 e9 a0 a2 hs n1 e3 k1 t2
  gi_wp2
  refine⟨by simp,.inl ⟨_,_,rfl,run_takeDeferred (f2.out _),?_⟩⟩;have b5:((o.setCell ⟨(w:Nat)+1,0,none⟩ (.bool b)).putObj D (.deferred none)).cell? ⟨(w:Nat)+1,0,none⟩=some (.bool b):=(X_ (O_ (fun e=>by have:=f2.out (.bool b);rw[<-e]at this;have h9:=aV_ o ⟨(w:Nat)+1,0,none⟩ (.bool b) c4;unfold World.cell? at h9;rw[this]at h9;cases h9))).trans (aV_ o ⟨(w:Nat)+1,0,none⟩ (.bool b) c4);refine⟨.bool b,by simp[results,go_sem,b5],?_⟩;rw[j'.out];exact⟨rfl,e4.out _⟩
 case stop=>
  rintro D c2 pre W5 hD _ ⟨rfl,c9,X1,Y1,e,es,h5,c,f,hb,E,ht,U,x1,x2⟩ hK f3;have a4:=HR.out;rw[if_pos c9]at a4;have e0:=E.lt;have d0:Chg [D] W5 (W5.putObj D (.deferred none)):=⟨rfl,rfl,rfl,by simp,fun y _ hy=>O_ (fun e=>hy (by simp[e]))⟩;have h8:=h5.tick ht (G:=[D]) (fun a ha u hu=>by
   unfold World.cell? at hu;rw[c_.1 ha,hK]at hu
   cases hu) d0 (fun y hy=>by rw[c_.1 hy];exact⟨by rw[f3];exact hb.1,o_,o_,o_⟩)
  have a':dv1 X Y w (W5.putObj D (.deferred none)) (St.apply S V l).1 (St.apply S V l).2.1 nb ni now grace:=⟨X1,Y1,e,es,h8,c.trans d0 (fun y hy=>by rw[c_.1 hy];exact .inr o_),f,U.2.2.2.2⟩;have b5:(W5.putObj D (.deferred none)).cell? ⟨(w:Nat)+1,0,none⟩=some (.bool false):=(X_ (O_ (fun e=>by have e2:(w:Nat)+1=D:=e;omega))).trans (x2.cell 0);have e4:=H_ a';have j':=H_ a4;have HK:=H_ hK;clear a' a4 hK h8 d0 e0 c9 e es h5 c f hb E ht U x1 x2
  gi_wp2
  refine⟨by simp,.inl ⟨_,_,rfl,run_takeDeferred HK,?_⟩⟩;refine⟨.bool false,by simp[results,go_sem,b5],?_⟩;rw[j'.out];exact⟨rfl,e4⟩
theorem cz3 (h:NdAt w X S Y V nb ni now grace) (E:Nrm V) (A:Option Addr) (n c:Nat) (l:List It) (H:n<=1000) (z:n<=c) (C:Row w w A n 5 (itc l)) (J:∀a,A=some a->a.block∉XY X Y) (o:∀x∈l,x.fit):
  Calls prog 22 #[nb,.slice A n c] w fun e w'=>e=.returned (.bool (St.last S V l).2.2)/\dv1 X Y w w' (St.last S V l).1 (St.last S V l).2.1 nb ni now grace:=by
 by_cases hj:joins V.st l=V.st
 ·exact mz4 h E A n c l H C hj
 ·refine nq4 h E A n c l ?_ H z C J o hj
  rcases an_ n with I|I
  ·have:=C.yw
   have O:l=[]:=ae_.1 o_;rw[O]at hj;exact absurd rfl hj
  ·exact I
end
section
variable {w w1 w2:World} {X X1 X2:Dw} {S S1 S2:Sd} {Y Y1 Y2:Yw} {V V1 V2:Sv} {nb now grace:Nat} {ni:Int}
def Answ (w:World) (g:Nat) (k frm to_:Int) (id no:Nat) (B:Option Addr) (n c:Nat):Prop:=BoxO w 36 g [k,frm,to_,[id],[no],.slice B n c]
theorem kz29 {P S a O v} (h:Hv P S a O v:=by intro w o;(obtain⟨k1,k2,k3,k4⟩:=Q.out _ o);go_simp;try (with_reducible rfl)):Hv P S a O v:=h
theorem eq1 (I z nb:Nat) (mf ni k:Int) (mi no:Nat) (B:Option Addr) (n c:Nat) (w:World) (h1:w.cell? I=some (.pointer (some nb))) (h2:w.cell? nb=some (.int .i64 ni)) (h3:w.cell? (z,1)=some (.int .i64 mf)) (h4:w.cell? (z,3)=some (.int .u64 mi)):
  Calls prog 20 #[k,[no],.slice B n c,I,z] w fun e w'=>e=.returned (.slice (some (w:Nat)) 1 1)/\Below w w w'/\Answ w' w k ni mf mi no B n c:=by
 have J:=b_ w (.cells #[k,ni,mf,[mi],[no],.slice B n c] 36);have C:=(ax (Below.refl w w)).alloc l_ (.cells #[k,ni,mf,[mi],[no],.slice B n c] 36);have E:=BoxO.new w.drew #[k,ni,mf,[mi],[no],.slice B n c] 36;have Q:=H_ (fun W (H:Below w w W)=>d_ ((H.cell (p:=⟨I,0,none⟩) (S_ w _ h1)).trans h1) (d_ ((H.cell (p:=⟨nb,0,none⟩) (S_ w _ h2)).trans h2) (d_ ((H.cell (p:=⟨z,1,none⟩) (S_ w _ h3)).trans h3) ((H.cell (p:=⟨z,3,none⟩) (S_ w _ h4)).trans h4))));have U:=H_ (d_ C E);clear J C E;go_enter func20,ntmps20;go_wp2_with fail;refine w_h w fun o=>?_;refine w_v 0 o ?_ (k:=kz29);go_simp;refine w_v 1 o ?_ (k:=kz29);go_simp;refine w_v 2 o ?_ (k:=kz29);go_simp;refine w_v 3 o ?_ (k:=kz29);go_simp;refine w_v 4 o ?_ (k:=kz29);go_simp;refine w_v 5 o ?_ (k:=kz29);go_simp;refine w_v 6 o ?_ (k:=kz29);go_simp;refine w_v 7 o ?_ (k:=kz29);go_simp;refine w_v 8 o ?_ (k:=kz29);go_simp;refine w_v 9 o ?_ (k:=kz29);go_simp;refine w_v 10 o ?_ (k:=kz29);go_simp;refine w_v 11 o ?_ (k:=kz29);go_simp;refine w_r 12 fun K hK=>?_
 skip
 go_simp;refine hK.out _ _ (o.alloc o.size _) ?_;clear o hK K;intro o;go_simp;refine w_v 13 o ?_ (k:=kz29);go_simp;refine w_d ?_;clear o Q;go_wp2;go_ret;exact⟨rfl,U.1,U.2⟩
def cv1 (X:Dw) (Y:Yw) (w:World) (S1:Sd) (V1:Sv) (nb:Nat) (ni:Int) (now grace:Nat) (mf:Int) (mi:Nat) (ans:Option (Int×Nat×List It)) (e:Ending) (w':World):Prop:=∃X1 Y1,X1.d=X.d/\Y1.s=Y.s/\NdAt w' X1 S1 Y1 V1 nb ni now grace/\Chg (XY X Y) w w'/\(∀g∈XY X1 Y1,g∈XY X Y\/(w:Nat)<=g)/\NewA w Y Y1/\
 match ans with
 |none=>e=.returned (.slice none 0 0)
 |some (k,no,L)=>∃g B n c,e=.returned (.slice (some ⟨g,0,none⟩) 1 1)/\Answ w' g k ni mf mi no B n c/\(w:Nat)<=g/\Row w' w' B n 5 (itc L)/\(∀a,B=some a->(w:Nat)<=a.block)/\g∉XY X1 Y1/\∀a,B=some a->a.block∉XY X1 Y1
theorem dv1.told {W:World} {k:Int} {mf:Int} {mi nn:Nat} {B:Option Addr} {n c:Nat} {L:List It} {e:Ending} (O:dv1 X Y W w1 S1 V1 nb ni now grace) (H:Below w w W) (Q:Row w1 w1 B n 5 (itc L)) (I:∀a,B=some a->(w:Nat)<=a.block/\∀X1 Y1,NdAt w1 X1 S1 Y1 V1 nb ni now grace->(∀g∈XY X1 Y1,g∈XY X Y\/(W:Nat)<=g)->a.block∉XY X1 Y1)
  (U:e=.returned (.slice (some (w1:Nat)) 1 1)) (o:Below w1 w1 w2) (C:Answ w2 w1 k ni mf mi nn B n c):cv1 X Y w S1 V1 nb ni now grace mf mi (some (k,nn,L)) e w2:=by
 obtain⟨X1,Y1,e1,es,h1,J,f,na⟩:=O;have hs:=J.size;have a2:=H.size;refine⟨X1,Y1,e1,es,h1.below o,((Chg.of_below H _).trans J (fun g E=>.inl E)).trans (Chg.of_below o (XY X Y)) (fun g E=>.inl E),fun g E=>(f g E).imp (fun z=>z) (g_ H.size),na.imp (fun z=>z) (fun z a C=>g_ H.size (z a C)),(w1:Nat),B,n,c,U,C,o_,(Q.below o).up o.size,fun a C=>(I a C).1,fun hm=>?_,fun a C=>(I a C).2 X1 Y1 h1 f⟩;have:=h1.at_.lt _ hm;omega
theorem dv1.mute {W:World} {mf:Int} {mi:Nat} (E:dv1 X Y W w1 S1 V1 nb ni now grace) (o:Below w w W):cv1 X Y w S1 V1 nb ni now grace mf mi none (.returned (.slice none 0 0)) w1:=by
 obtain⟨X1,Y1,H,es,h1,I,f,J⟩:=E;exact⟨X1,Y1,H,es,h1,(Chg.of_below o _).trans I (fun g C=>.inl C),fun g C=>(f g C).imp (fun z=>z) (g_ o.size),J.imp (fun z=>z) (fun z a O=>g_ o.size (z a O)),rfl⟩
def St.put (S:Sd) (V:Sv) (l:List It):Sd×Sv×Option (Int×Nat×List It):=
 if (l.any fun a=>decide (a.v<=V.M.v.floor))=true then (S,V,some (3,V.M.v.floor,[])) else
 if (St.last S V l).2.2=true then ((St.last S V l).1,(St.last S V l).2.1,some (2,0,[])) else ((St.last S V l).1,(St.last S V l).2.1,none)
theorem kz5 {P S a oi v} (h:Hv P S a oi v:=by intro w o;(obtain⟨x,y,z⟩:=HK.out _ o;have x0:=x.c0;have y0:=y.c0;have y1:=y.c1;have y2:=y.c2;have y3:=y.c3;have y4:=y.c4;have y5:=y.c5;have z0:=z.box.c0;clear x y z);go_simp;try (with_reducible rfl)):Hv P S a oi v:=h
theorem nw5 (h:NdAt w X S Y V nb ni now grace) (hN:Nrm V) (frm:Int) (mi no:Nat) (A:Option Addr) (n c:Nat) (l:List It) (hg:(Mq.mk 1 frm ni mi no A n c).Good l) (hr:Row w w A n 5 (itc l)) (f0:n<=c) (hn:n<=1000) (hA:∀a,A=some a->a.block∉XY X Y) (c9:∀x∈l,x.fit):
  Calls prog 7 #[nb,.agg #[.int .i64 1,frm,ni,[mi],[no],.slice A n c]] w (cv1 X Y w (St.put S V l).1 (St.put S V l).2.1 nb ni now grace frm mi (St.put S V l).2.2):=by
 obtain⟨R,C⟩:=n_ (St.put S V l);rw[<-C];unfold St.put at C;have HR:=H_ C;have HH:=H_ h;clear C;have d0:=b_ w (.cells #[nb] 25);have E:=d0.alloc s_ (.cells #[.int .i64 1,frm,ni,[mi],[no],.slice A n c] 36);have J:=(BoxO.new w #[nb] 25).alloc (.cells #[.int .i64 1,frm,ni,[mi],[no],.slice A n c] 36);have H:=BoxO.new (w.alloc (.cells #[nb] 25)) #[.int .i64 1,frm,ni,[mi],[no],.slice A n c] 36;rw[F_]at H;have h2:=h.below E;have j2:∀(fn:Fn) (first cap:Array Value) (w:World),(Instr.makeFunc fn first cap).run prog w=.ok (.func fn first cap) w:=fun _ _ _ _=>rfl;obtain⟨W,hW⟩:=n_ ((w.alloc (.cells #[nb] 25)).alloc (.cells #[.int .i64 1,frm,ni,[mi],[no],.slice A n c] 36));obtain⟨g0,a4⟩:=n_ (w:Nat);rw[<-hW]at E J H h2;rw[<-a4]at J H;have Q:=fun W' (hb:Below W W W')=>mq3 _ l W' hg ((((hr.below E).up E.size).below hb).up hb.size);unfold Mq.val at Q;simp only at Q;have d1:=H_ Q;have H2:=H_ h2;have HX:=H_ (d_ J H);have HB:=H_ E;have HW:=H_ (d_ hW a4);have a2:=H_ ((hr.below E).up E.size);have HL:=H_ (d_ h.at_.lt (d_ h.box.lt h.at_.dm.env.base));have HK:=H_ (fun W' (hb:Below W W W')=>d_ (J.below hb) (d_ (H.below hb) (h2.below hb)));clear Q h2 J H d0 E hW a4 hr h hg;go_enter func7,ntmps7;go_wp2_with fail;rw[<-HW.1,<-HW.2];refine w_h W fun o=>?_;refine w_v 0 o ?_ (k:=kz5);go_simp;refine w_r 1 fun K hK=>?_;go_simp
 with_reducible refine(d1.out _ o).mono ?_
 rintro e w3 ⟨rfl,a5⟩;go_simp;refine hK.out _ _ (az o a5) ?_;clear o hK K;intro o;go_simp;refine w_v 2 o ?_ (k:=kz5);go_simp;refine w_v 3 o ?_ (k:=kz5);go_simp;refine w_v 4 o ?_ (k:=kz5);go_simp;refine w_v 5 o ?_ (k:=kz5);go_simp;refine w_v 6 o ?_ (k:=kz5);go_simp;refine w_v 7 o ?_ (k:=kz5);go_simp;refine w_v 8 o ?_ (k:=kz5);go_simp;refine w_v 9 o ?_ (k:=kz5);go_simp;refine w_v 10 o ?_ (k:=kz5);go_simp;refine w_v 11 o ?_ (k:=kz5);go_simp;refine w_d ?_;have a6:=az (ax (Below.refl W W)) a5;clear o a5 d1;obtain⟨x,y,z⟩:=HK.out _ a6;have x0:=x.c0;have z1:=z.box.c1;have d2:=H_ (aw1 z.at_ (by have:=hN.files;omega));have f4:=H_ a6;clear x y z a6;go_wp2_with fail
 refine m_ d2 ?_
 rintro e w4 ⟨rfl,d3⟩;obtain⟨mt,a7⟩:=n_ (St.uj V);have f5:=H_ (az f4.out d3);have d4:=az f5.out (b_ w4 (.cells #[[mt.floor],[mt.cert],[mt.at_],[mt.lease]] 39));have f6:=H_ (BoxO.new w4 #[[mt.floor],[mt.cert],[mt.at_],[mt.lease]] 39);have U:=H_ d4;rw[<-a7];unfold Mt.val;have d5:=H_ a7;clear a7 d3 d2 x0 z1 d4;obtain⟨x,y,z⟩:=HK.out _ U;have x0:=x.c0;have y0:=y.c0;have y1:=y.c1;have y3:=y.c3;have y4:=y.c4;have y5:=y.c5;have z0:=z.box.c0;have z1:=z.box.c1;have a0:=yj4 mt A n c l _ o_ ((a2.below U).up U.size);obtain⟨ab,a8⟩:=n_ (l.any fun a=>decide (a.v<=mt.floor));rw[<-a8]at a0;unfold Mt.val at a0;have C:=HR.out;rw[show (l.any fun a=>decide (a.v<=V.M.v.floor))=ab by rw[a8,d5.out];rfl]at C;have d6:=H_ C;have d7:=H_ a0;clear x y z a0 a8 C HR;go_wp2_with fail
 refine m_ d7 ?_
 rintro e w7 ⟨rfl,a9⟩;have I:=H_ (az U.out a9);have a':=f6.below a9;clear x0 y0 y1 y3 y4 y5 z0 z1 a9 d7;obtain⟨x,y,z⟩:=HK.out _ I;have x0:=x.c0;have y1:=y.c1;have y3:=y.c3;have y5:=y.c5;have z0:=z.box.c0;have m0:=a'.c0
 cases ab with
 |true=>
  have C:=d6.out;rw[if_pos rfl]at C;have O:=H_ (eq1 g0 (g0+1) nb frm ni 3 mi mt.floor none 0 0 w7 x0 z0 y1 y3);have HZ:Hid (∀e w',e=.returned (.slice (some (w7:Nat)) 1 1)->Below w7 w7 w'->Answ w' w7 3 ni frm mi mt.floor none 0 0->cv1 X Y w R.1 R.2.1 nb ni now grace frm mi R.2.2 e w'):=H_ (by
   intro e w' h1 h2 h3;rw[C,show V.M.v.floor=mt.floor by rw[d5.out];rfl];exact(dv1.same HH.out (HB.trans (I.mono HB.size))).told (W:=w) b0_ Row.nil_ (fun a ha=>by cases ha) h1 h2 h3)
  clear C x y z a';go_wp2_with fail
  refine m_ O ?_
  rintro e w8 ⟨rfl,h8,d'⟩;have HY:=H_ (HZ.out _ _ rfl h8 d');clear h8 d' HZ O;go_wp2;go_ret;exact HY
 |false=>
  have C:=d6.out;rw[if_neg s_]at C;obtain⟨e0,g4,g8⟩:=HL.out;have e2:∀g,(w:Nat)<=g->g∉XY X Y:=fun g hg hm=>by have:=e0 g hm;omega
  have a1:=cz3 z hN A n c l hn f0 ((a2.below I).up I.size) hA c9;obtain⟨r,hr⟩:=n_ (St.last S V l);rw[<-hr]at a1 C;obtain⟨S1,V1,b⟩:=r;simp only at a1 C;have g':=H_ a1;have h0:=H_ C;have b2:=H_ (d_ x y);have b3:=H_ e2;clear a1 C hr e0 g4 g8 e2 x y z a';go_wp2_with fail
  refine m_ g' ?_
  rintro e w8 ⟨rfl,hu⟩;have C:=h0.out;have HU:=H_ hu
  cases b with
  |false=>
   rw[if_neg s_]at C;have HZ:Hid (cv1 X Y w R.1 R.2.1 nb ni now grace frm mi R.2.2 (.returned (.slice none 0 0)) w8):=H_ (by
    rw[C];exact HU.mute (HB.trans (I.mono HB.size)))
   clear C hu;go_wp2;go_ret;exact HZ
  |true=>
   rw[if_pos rfl]at C;obtain⟨X1,Y1,e1,es,h8,c8,f8,_⟩:=hu;have hg:=HW.2;have q0:=(b2.1.chg c8 (b3.out _ o_)).c0;have q1:=(b2.2.chg c8 (b3.out _ o_)).c1;have q3:=(b2.2.chg c8 (b3.out _ o_)).c3;have p0:=h8.box.c0;have b5:=eq1 g0 (g0+1) nb frm ni 2 mi 0 none 0 0 w8 q0 p0 q1 q3;rw[show ((0:Nat):Int)=0 from rfl]at b5;have O:=H_ b5;have HZ:Hid (∀e w',e=.returned (.slice (some (w8:Nat)) 1 1)->Below w8 w8 w'->Answ w' w8 2 ni frm mi 0 none 0 0->cv1 X Y w R.1 R.2.1 nb ni now grace frm mi R.2.2 e w'):=H_ (by
    intro e w' h1 h2 h3;rw[C];exact HU.told (HB.trans (I.mono HB.size)) Row.nil_ (fun a ha=>by cases ha) h1 h2 h3)
   clear C hg e1 es h8 c8 f8 b5;go_wp2_with fail
   refine m_ O ?_
   rintro e w9 ⟨rfl,h9,e3⟩;have HY:=H_ (HZ.out _ _ rfl h9 e3);clear h9 e3 HZ O q0 q1 q3 p0;go_wp2;go_ret;exact HY
theorem cv1.up {mf:Int} {mi:Nat} {o:Option (Int×Nat×List It)} {e:Ending} (C:X1.d=X.d) (E:Y1.s=Y.s) (c:Chg (XY X Y) w w1) (z:∀g∈XY X1 Y1,g∈XY X Y\/(w:Nat)<=g) (H:NewA w Y Y1) (k:cv1 X1 Y1 w1 S1 V1 nb ni now grace mf mi o e w2):cv1 X Y w S1 V1 nb ni now grace mf mi o e w2:=by
 obtain⟨X2,Y2,q1,I,h,c2,f2,J,r⟩:=k;refine⟨X2,Y2,q1.trans C,I.trans E,h,c.trans c2 z,fun g O=>?_,H.trans J c.size,?_⟩
 ·rcases f2 g O with q|q
  ·exact z g q
  ·exact .inr (g_ c.size q)
 ·cases o with
  |none=>exact r
  |some a=>
   obtain⟨g,B,n,Q,U,z2,z3,z4,z5,z6⟩:=r;exact⟨g,B,n,Q,U,z2,g_ c.size z3,z4,fun a ha=>g_ c.size (z5 a ha),z6⟩
theorem NdAt.told (h:NdAt w X S Y V nb ni now grace) {k:Int} {mf:Int} {mi nn:Nat} {B:Option Addr} {n c:Nat} {L:List It} (z:Below w w w1) (J:Row w1 w1 B n 5 (itc L)) (H:∀a,B=some a->(w:Nat)<=a.block)
  (o:Below w1 w1 w2) (C:Answ w2 w1 k ni mf mi nn B n c):cv1 X Y w S V nb ni now grace mf mi (some (k,nn,L)) (.returned (.slice (some (w1:Nat)) 1 1)) w2:=by
 have I:=h.at_.lt;have O:=z.size;exact⟨X,Y,rfl,rfl,(h.below z).below o,Chg.of_below (az z o) _,fun _ Q=>.inl Q,.inl rfl,_,B,n,c,rfl,C,O,(J.below o).up o.size,H,fun E=>by have:=I _ E;omega,fun a C E=>by have:=I _ E;have:=H a C;omega⟩
theorem kz20 {P S a oi v} (h:Hv P S a oi v:=by intro w o;(obtain⟨x,y,z⟩:=HK.out _ o;have x0:=x.c0;have y0:=y.c0;have y1:=y.c1;have y2:=y.c2;have y3:=y.c3;have y4:=y.c4;have y5:=y.c5;have z0:=z.box.c0;clear x y z);go_simp;try (with_reducible rfl)):Hv P S a oi v:=h
theorem kz21 {P S a oi v} (h:Hv P S a oi v:=by intro w o;(obtain⟨x,y,z,q⟩:=a1.out _ o;have x0:=x.c0;have y4:=y.c4;have z1:=z.box.c1;have q1:=q.c1;clear x y z q);go_simp;try (with_reducible rfl)):Hv P S a oi v:=h
theorem mz5 (h:NdAt w X S Y V nb ni now grace) (hN:Nrm V) (frm:Int) (mi no:Nat) (A:Option Addr) (n c:Nat) (l:List It) (hg:(Mq.mk 4 frm ni mi no A n c).Good l) (hr:Row w w A n 5 (itc l)) (f7:no<=255):
  Calls prog 7 #[nb,.agg #[.int .i64 4,frm,ni,[mi],[no],.slice A n c]] w (cv1 X Y w S V nb ni now grace frm mi (some (5,V.M.v.cert,V.st.filter fun a=>a.s==(no:Int)))):=by
 have HH:=H_ h;have b3:=b_ w (.cells #[nb] 25);have E:=b3.alloc s_ (.cells #[.int .i64 4,frm,ni,[mi],[no],.slice A n c] 36);have O:=(BoxO.new w #[nb] 25).alloc (.cells #[.int .i64 4,frm,ni,[mi],[no],.slice A n c] 36);have I:=BoxO.new (w.alloc (.cells #[nb] 25)) #[.int .i64 4,frm,ni,[mi],[no],.slice A n c] 36;rw[F_]at I;have h2:=h.below E;have f9:∀(fn:Fn) (first cap:Array Value) (w:World),(Instr.makeFunc fn first cap).run prog w=.ok (.func fn first cap) w:=fun _ _ _ _=>rfl;obtain⟨W,hW⟩:=n_ ((w.alloc (.cells #[nb] 25)).alloc (.cells #[.int .i64 4,frm,ni,[mi],[no],.slice A n c] 36));obtain⟨g0,a2⟩:=n_ (w:Nat);rw[<-hW]at E O I h2;rw[<-a2]at O I;have Q:=fun C (H:Below W W C)=>mq3 _ l C hg ((((hr.below E).up E.size).below H).up H.size);unfold Mq.val at Q;simp only at Q;have b5:=H_ Q;have H2:=H_ h2;have HX:=H_ (d_ O I);have HB:=H_ E;have HW:=H_ (d_ hW a2);have f2:=H_ ((hr.below E).up E.size);have HL:=H_ (d_ h.at_.lt (d_ h.box.lt h.at_.dm.env.base));have HK:=H_ (fun C (H:Below W W C)=>d_ (O.below H) (d_ (I.below H) (h2.below H)));clear Q h2 O I b3 E hW a2 hr h hg;go_enter func7,ntmps7;go_wp2_with fail;rw[<-HW.1,<-HW.2];refine w_h W fun o=>?_;refine w_v 0 o ?_ (k:=kz20);go_simp;refine w_r 1 fun K hK=>?_;go_simp
 with_reducible refine(b5.out _ o).mono ?_
 rintro e w3 ⟨rfl,a4⟩;go_simp;refine hK.out _ _ (az o a4) ?_;clear o hK K;intro o;go_simp;refine w_v 2 o ?_ (k:=kz20);go_simp;refine w_v 3 o ?_ (k:=kz20);go_simp;refine w_v 4 o ?_ (k:=kz20);go_simp;refine w_v 5 o ?_ (k:=kz20);go_simp;refine w_v 6 o ?_ (k:=kz20);go_simp;refine w_v 7 o ?_ (k:=kz20);go_simp;refine w_v 8 o ?_ (k:=kz20);go_simp;refine w_v 9 o ?_ (k:=kz20);go_simp;refine w_v 10 o ?_ (k:=kz20);go_simp;refine w_v 11 o ?_ (k:=kz20);go_simp;refine w_d ?_;have a5:=az (ax (Below.refl W W)) a4;clear o a4 b5;obtain⟨x,y,z⟩:=HK.out _ a5;have x0:=x.c0;have z1:=z.box.c1;have b6:=H_ (aw1 z.at_ (by have:=hN.files;omega));have d6:=H_ a5;clear x y z a5;go_wp2_with fail
 refine m_ b6 ?_
 rintro e w4 ⟨rfl,b7⟩;obtain⟨mt,a6⟩:=n_ (St.uj V);have d7:=H_ (az d6.out b7);have J:=az d7.out (b_ w4 (.cells #[[mt.floor],[mt.cert],[mt.at_],[mt.lease]] 39));have d8:=H_ (BoxO.new w4 #[[mt.floor],[mt.cert],[mt.at_],[mt.lease]] 39);have a7:=H_ J;rw[<-a6];unfold Mt.val;have d9:=H_ a6;clear a6 b7 b6 x0 z1 J;obtain⟨x,y,z⟩:=HK.out _ a7;have x0:=x.c0;have y0:=y.c0;have y1:=y.c1;have y3:=y.c3;have y4:=y.c4;have y5:=y.c5;have z0:=z.box.c0;have z1:=z.box.c1;have e1:((no:Int)<=(255:Int))=True:=eq_true o_;have g4:IntKind.i64.wrap (no:Int)=(no:Int):=M_ _ o_;obtain⟨U,a8⟩:=n_ (w4.alloc (.cells #[[mt.floor],[mt.cert],[mt.at_],[mt.lease]] 39));have a1:Hid (∀C,Below U U C->BoxO C 25 g0 [nb]/\BoxO C 36 (g0+1) [.int .i64 4,frm,ni,[mi],[no],.slice A n c]/\NdAt C X S Y V nb ni now grace/\BoxO C 39 (w4:Nat) [[mt.floor],[mt.cert],[mt.at_],[mt.lease]]):=H_ (fun C H=>by
  rw[a8]at H;have q:=HK.out C (az a7.out H);exact⟨q.1,q.2.1,q.2.2,d8.below H⟩)
 have b8:=H_ a8;have b9:=H_ (fun C (H:Below U U C) B nn cc=>(by
  obtain⟨q1,q2,q3,_⟩:=a1.out C H;exact eq1 g0 (g0+1) nb frm ni 5 mi mt.cert B nn cc C (q1.cell 0) (q3.box.cell 0) (q2.cell 1) (q2.cell 3):Calls prog 20 #[.int .i64 5,[mt.cert],.slice B nn cc,g0,.pointer (some ⟨g0+1,0,none⟩)] C fun e w'=>e=.returned (.slice (some C.heap.size) 1 1)/\Below C.heap.size C w'/\Answ w' C.heap.size 5 ni frm mi mt.cert B nn cc))
 have b':=H_ (fun C (H:Below U U C)=>kk3 (a1.out C H).2.2.1.at_ (by have:=hN.len;omega) (no:Int));clear x y z a8;go_wp2_with fail;rw[<-b8.out];clear x0 y0 y1 y3 y4 y5 z0 z1;refine w_h U fun o=>?_;refine w_v 0 o ?_ (k:=kz21);go_simp;refine w_v 1 o ?_ (k:=kz21);go_simp;refine w_v 2 o ?_ (k:=kz21);go_simp;refine w_v 3 o ?_ (k:=kz21);go_simp;refine w_v 4 o ?_ (k:=kz21);go_simp;refine w_v 5 o ?_ (k:=kz21);go_simp;refine w_v 6 o ?_ (k:=kz21);go_simp;refine w_v 7 o ?_ (k:=kz21);go_simp;refine w_v 8 o ?_ (k:=kz21);go_simp;refine w_v 9 o ?_ (k:=kz21);go_simp;refine w_r 10 fun K hK=>?_;go_simp
 with_reducible refine(b'.out _ o).mono ?_
 rintro e w7 ⟨A7,k7,rfl,e0,a9,a'⟩;clear e0;go_simp;refine hK.out _ _ (az o a') ?_;clear o hK K;intro o;go_simp;refine w_r 11 fun K hK=>?_;go_simp
 with_reducible refine(b9.out _ o A7 k7 k7).mono ?_
 rintro e w8 ⟨rfl,b0,c9⟩;go_simp;refine hK.out _ _ (az o b0) ?_;clear o hK K;intro o;go_simp;refine w_v 12 o ?_ (k:=kz21);go_simp;refine w_d ?_;have J:Below w w U:=HB.trans ((by rw[b8.out];exact a7:Below W W U).mono HB.size);have hz:cv1 X Y w S V nb ni now grace frm mi (some (5,V.M.v.cert,V.st.filter fun a=>a.s==(no:Int))) (.returned (.slice (some (w7:Nat)) 1 1)) w8:=by
  have e2:V.M.v.cert=mt.cert:=by rw[d9.out];rfl
  rw[e2];have d0:Below w w w7:=az J (az (ax b0_) a');exact HH.told d0 a9.row (fun a ha=>g_ J.size (a9.low a ha)) b0 c9
 have HZ:=H_ hz;clear hz J o a' a9 b0 c9 b9 b';go_wp2;go_ret;exact HZ
def St.seal (S:Sd) (V:Sv) (f:Nat):Sd×Sv×Option (Int×Nat×List It):=
 if f < V.M.v.floor then (S,V,some (3,V.M.v.floor,[])) else
 if f=V.M.v.floor then (S,V,some (7,f,upto V.st f)) else
 if (St.setMeta S V { St.uj V with floor:=f }).2.2=0 then ((St.setMeta S V { St.uj V with floor:=f }).1,(St.setMeta S V { St.uj V with floor:=f }).2.1,some (7,f,upto V.st f)) else
 ((St.setMeta S V { St.uj V with floor:=f }).1,(St.setMeta S V { St.uj V with floor:=f }).2.1,none)
theorem cy6 (x y c a e:Nat) (w:World):(binOp .eql 39 (.agg #[[x],[c],[a],[e]]) (.agg #[[y],[c],[a],[e]])).run prog w=.ok (.bool (decide (x=y))) w:=by
 have C:=underlying22;have E:=Tryz.isAgg22;have H:=Tryz.sizeOf22;have o:prog.underlying 39=some (.struct (prog.fieldsOf 39)):=by kernel_rfl
 have z:prog.stoodInHeld 39=false:=by kernel_rfl
 rw[run_eql_struct,show (10000:Nat)=9999+1 from rfl,run_equalIn_agg w 9999 39 _ _ o z];simp only[Program.fieldsOf,underlying39];go_simp
 by_cases h:x=y
 ·simp[h]
 ·simp[h]
  omega
theorem jk4 (S:Sd) (V:Sv) (m:Mt):(St.setMeta S V m).2.1.st=V.st:=by
 unfold St.setMeta;split
 ·rfl
 ·rfl
theorem kz8 {P S a oi v} (h:Hv P S a oi v:=by intro w o;(obtain⟨x,y,z⟩:=HK.out _ o;have x0:=x.c0;have y0:=y.c0;have y1:=y.c1;have y2:=y.c2;have y3:=y.c3;have y4:=y.c4;have y5:=y.c5;have z0:=z.box.c0;clear x y z);go_simp;try (with_reducible rfl)):Hv P S a oi v:=h
theorem kz9 {P S a oi v} (h:Hv P S a oi v:=by intro w o;(obtain⟨q1,q2,q3,q4⟩:=o;have x0:=q1.c0;have z1:=q4.c1;have m0:=q2.c0;have m1:=q2.c1;have m2:=q2.c2;have m3:=q2.c3;have n0:=q3.c0;have n1:=q3.c1;have n2:=q3.c2;have n3:=q3.c3;have a':=j2.out;clear q1 q2 q3 q4);go_simp;try (with_reducible rfl)):Hv P S a oi v:=h
theorem kz10 {P S a oi v} (h:Hv P S a oi v:=by intro w o;(obtain⟨x,y,z⟩:=a4.out _ o;have x0:=x.c0;have y4:=y.c4;have z1:=z.box.c1;clear x y z);go_simp;try (with_reducible rfl)):Hv P S a oi v:=h
theorem ny4 (h:NdAt w X S Y V nb ni now grace) (hN:Nrm V) (frm:Int) (mi no:Nat) (A:Option Addr) (n c:Nat) (l:List It) (hg:(Mq.mk 6 frm ni mi no A n c).Good l) (hr:Row w w A n 5 (itc l)) (h1:1<=no) (m4:V.M.v.cert<=281474976710656/\V.M.v.at_<=281474976710656/\V.M.v.lease<=281474976710656):
  Calls prog 7 #[nb,.agg #[.int .i64 6,frm,ni,[mi],[no],.slice A n c]] w (cv1 X Y w (St.seal S V no).1 (St.seal S V no).2.1 nb ni now grace frm mi (St.seal S V no).2.2):=by
 obtain⟨R,I⟩:=n_ (St.seal S V no);rw[<-I];unfold St.seal at I;have HR:=H_ I;have HH:=H_ h;have j3:=H_ hg.no;clear I;have j4:=b_ w (.cells #[nb] 25);have a5:=j4.alloc s_ (.cells #[.int .i64 6,frm,ni,[mi],[no],.slice A n c] 36);have d7:=(BoxO.new w #[nb] 25).alloc (.cells #[.int .i64 6,frm,ni,[mi],[no],.slice A n c] 36);have d0:=BoxO.new (w.alloc (.cells #[nb] 25)) #[.int .i64 6,frm,ni,[mi],[no],.slice A n c] 36;rw[F_]at d0;have h2:=h.below a5;have o7:∀(fn:Fn) (first cap:Array Value) (w:World),(Instr.makeFunc fn first cap).run prog w=.ok (.func fn first cap) w:=fun _ _ _ _=>rfl;obtain⟨W,hW⟩:=n_ ((w.alloc (.cells #[nb] 25)).alloc (.cells #[.int .i64 6,frm,ni,[mi],[no],.slice A n c] 36));obtain⟨g0,g8⟩:=n_ (w:Nat);rw[<-hW]at a5 d7 d0 h2;rw[<-g8]at d7 d0;have f0:=fun C (J:Below W W C)=>mq3 _ l C hg ((((hr.below a5).up a5.size).below J).up J.size);unfold Mq.val at f0;simp only at f0;have j5:=H_ f0;have H2:=H_ h2;have HX:=H_ (d_ d7 d0);have HB:=H_ a5;have HW:=H_ (d_ hW g8);have o1:=H_ ((hr.below a5).up a5.size);have HL:=H_ (d_ h.at_.lt (d_ h.box.lt h.at_.dm.env.base));have HK:=H_ (fun C (J:Below W W C)=>d_ (d7.below J) (d_ (d0.below J) (h2.below J)));clear f0 h2 d7 d0 j4 a5 hW g8 hr h hg;go_enter func7,ntmps7;go_wp2_with fail;rw[<-HW.1,<-HW.2];refine w_h W fun o=>?_;refine w_v 0 o ?_ (k:=kz8);go_simp;refine w_r 1 fun K O=>?_;go_simp
 with_reducible refine(j5.out _ o).mono ?_
 rintro e w3 ⟨rfl,g'⟩;go_simp;refine O.out _ _ (az o g') ?_;clear o O K;intro o;go_simp;refine w_v 2 o ?_ (k:=kz8);go_simp;refine w_v 3 o ?_ (k:=kz8);go_simp;refine w_v 4 o ?_ (k:=kz8);go_simp;refine w_v 5 o ?_ (k:=kz8);go_simp;refine w_v 6 o ?_ (k:=kz8);go_simp;refine w_v 7 o ?_ (k:=kz8);go_simp;refine w_v 8 o ?_ (k:=kz8);go_simp;refine w_v 9 o ?_ (k:=kz8);go_simp;refine w_v 10 o ?_ (k:=kz8);go_simp;refine w_v 11 o ?_ (k:=kz8);go_simp;refine w_d ?_;have h0:=az (ax (Below.refl W W)) g';clear o g' j5;obtain⟨x,y,z⟩:=HK.out _ h0;have x0:=x.c0;have z1:=z.box.c1;have j7:=H_ (aw1 z.at_ (by have:=hN.files;omega));have m6:=H_ h0;clear x y z h0;go_wp2_with fail
 refine m_ j7 ?_
 rintro e w4 ⟨rfl,j8⟩;obtain⟨mt,h6⟩:=n_ (St.uj V);have j9:=H_ (az m6.out j8);have j':=az j9.out (b_ w4 (.cells #[[mt.floor],[mt.cert],[mt.at_],[mt.lease]] 39));have k0:=H_ (BoxO.new w4 #[[mt.floor],[mt.cert],[mt.at_],[mt.lease]] 39);have h7:=H_ j';rw[<-h6];unfold Mt.val;have f1:=H_ h6;clear h6 j8 j7 x0 z1 j';obtain⟨x,y,z⟩:=HK.out _ h7;have x0:=x.c0;have y0:=y.c0;have y1:=y.c1;have y3:=y.c3;have y4:=y.c4;have y5:=y.c5;have z0:=z.box.c0;have z1:=z.box.c1;have d1:=H_ (rz4 mt no (w4.alloc (.cells #[[mt.floor],[mt.cert],[mt.at_],[mt.lease]] 39)));unfold Mt.val at d1;simp only at d1;clear x y z
 by_cases d8:no < mt.floor
 ·have b0:=d1.out
  rw[if_pos (.inl d8)]at b0;have d9:=H_ b0;clear b0 d1;go_wp2_with fail
  refine m_ d9 ?_
  rintro e w7 ⟨rfl,b1⟩;have d3:=(az h7.out b1);have a6:=az d3 (b_ w7 (.cells #[.int .u64 0,.int .u64 0,.int .u64 0,.int .u64 0] 39));have d4:=(k0.below b1).alloc (.cells #[.int .u64 0,.int .u64 0,.int .u64 0,.int .u64 0] 39);obtain⟨x,y,z⟩:=HK.out _ a6;have q0:=x.c0;have q1:=y.c1;have q3:=y.c3;have p0:=z.box.c0;have m0:=d4.c0;have a7:=H_ (eq1 g0 (g0+1) nb frm ni 3 mi mt.floor none 0 0 _ q0 p0 q1 q3);have I:=HR.out;rw[show V.M.v.floor=mt.floor by rw[f1.out];rfl,if_pos d8]at I;have HZ:Hid (∀e w',e=.returned (.slice (some ⟨(w7.alloc (.cells #[.int .u64 0,.int .u64 0,.int .u64 0,.int .u64 0] 39)).heap.size,0,none⟩) 1 1)->Below (w7.alloc (.cells #[.int .u64 0,.int .u64 0,.int .u64 0,.int .u64 0] 39)).heap.size (w7.alloc (.cells #[.int .u64 0,.int .u64 0,.int .u64 0,.int .u64 0] 39)) w'->Answ w' (w7.alloc (.cells #[.int .u64 0,.int .u64 0,.int .u64 0,.int .u64 0] 39)).heap.size 3 ni frm mi mt.floor none 0 0->cv1 X Y w R.1 R.2.1 nb ni now grace frm mi R.2.2 e w'):=H_ (by
   intro e w' h1 h2 h3;rw[I,h1];exact HH.told (HB.trans (a6.mono HB.size)) Row.nil_ (fun a ha=>by cases ha) h2 h3)
  clear I x y z d4 b1 d3 a6 d9 x0 y0 y1 y3 y4 y5 z0 z1;go_wp2_with fail
  refine m_ a7 ?_
  rintro e w8 ⟨rfl,h8,k1⟩;have hy:=HZ.out _ _ rfl h8 k1;simp only[F_]at hy;have HY:=H_ hy;clear h8 k1 HZ a7 hy;go_wp2;go_ret;exact HY
 ·have b0:=d1.out
  rw[if_neg (by have:=j3.out;omega)]at b0;have d9:=H_ b0;clear b0 d1;go_wp2_with fail
  refine m_ d9 ?_
  rintro e w7 ⟨rfl,b1⟩;have d3:=az h7.out b1;have a6:=az d3 (b_ w7 (.cells #[[no],[mt.cert],[mt.at_],[mt.lease]] 39));have d4:=(k0.below b1).alloc (.cells #[[no],[mt.cert],[mt.at_],[mt.lease]] 39);have h':=BoxO.new w7 #[[no],[mt.cert],[mt.at_],[mt.lease]] 39;obtain⟨W9,i0⟩:=n_ (w7.alloc (.cells #[[no],[mt.cert],[mt.at_],[mt.lease]] 39));rw[<-i0]at a6 d4 h';obtain⟨x,y,z⟩:=HK.out _ a6;have d5:Below w w W9:=HB.trans (a6.mono HB.size);obtain⟨k3,m8,m9⟩:=HL.out;have k4:∀g,(w:Nat)<=g->g∉XY X Y:=fun g hg hm=>by have:=k3 g hm;omega
  have k5:(w:Nat)<=(w4:Nat):=g_ HB.size j9.size;have k6:(w:Nat)<=(w7:Nat):=g_ HB.size d3.size;have k7:BoxO W9.drew 25 g0 [nb]/\BoxO W9.drew 39 (w4:Nat) [[mt.floor],[mt.cert],[mt.at_],[mt.lease]]/\BoxO W9.drew 39 (w7:Nat) [[no],[mt.cert],[mt.at_],[mt.lease]]/\BoxO W9.drew 59 nb [ni,Y.s,[now],[grace]]:=⟨x,d4,h',z.box⟩;have d':=H_ k7;have a1:=H_ (d_ x (d_ y z));have k8:=H_ i0;have f2:=H_ d5;have b2:=H_ (d_ k4 (d_ k5 k6));have I:=HR.out;rw[show V.M.v.floor=mt.floor by rw[f1.out];rfl,if_neg d8]at I;clear b1 d3 a6 d4 h' d5 k4 k5 k6 k7 x y z i0 k3 m8 m9 x0 y0 y1 y3 y4 y5 z0 z1 d9;have a':=fun C=>cy6 no mt.floor mt.cert mt.at_ mt.lease C
  by_cases heq:no=mt.floor
  ·rw[if_pos heq]at I
   rw[decide_eq_true heq]at a';have i1:=H_ I;have p2:=H_ heq;have j2:=H_ a';clear I heq a' d8;go_wp2_with fail;rw[<-k8.out];refine wp_region_held_drew (S:=fun w'=>BoxO w' 25 g0 [nb]/\BoxO w' 39 (w4:Nat) [[mt.floor],[mt.cert],[mt.at_],[mt.lease]]/\BoxO w' 39 (w7:Nat) [[no],[mt.cert],[mt.at_],[mt.lease]]/\BoxO w' 59 nb [ni,Y.s,[now],[grace]]) rfl d'.out (fun o=>?_);refine w_v 0 o ?_ (k:=kz9);go_simp;refine w_v 1 o ?_ (k:=kz9);go_simp;refine w_v 2 o ?_ (k:=kz9);go_simp;refine w_v 3 o ?_ (k:=kz9);go_simp;refine wpT0 (i:=4) o ?_;go_simp;refine wpT0 (i:=5) o ?_;go_simp;refine wpT0 (i:=6) o ?_;go_simp;refine wpT0 (i:=7) o ?_;go_simp;refine wpT0 (i:=8) o ?_;go_simp;refine wpT0 (i:=9) o ?_;go_simp;refine wpT0 (i:=10) o ?_;go_simp;refine w_v 11 o ?_ (k:=kz9);go_simp;refine w_d ?_;clear o d';have a2:Below W9 W9 W9.drew:=ax b0_;obtain⟨Wd,i2⟩:=n_ W9.drew;rw[<-i2]at a2;have e3:=H_ a2;have m':=H_ i2;rw[<-m'.out];clear a2 i2;have a4:Hid (∀C,Below Wd Wd C->BoxO C 25 g0 [nb]/\BoxO C 36 (g0+1) [.int .i64 6,frm,ni,[mi],[no],.slice A n c]/\NdAt C X S Y V nb ni now grace):=H_ (fun C J=>⟨(a1.1.below e3).below J,(a1.2.1.below e3).below J,(a1.2.2.below e3).below J⟩);have e4:=H_ (fun C (J:Below Wd Wd C)=>fy1 (a4.out C J).2.2.at_ (by have:=hN.len;omega));have a7:=H_ (fun C (J:Below Wd Wd C) B nn cc=>(by
    obtain⟨q1,q2,q3⟩:=a4.out C J;exact eq1 g0 (g0+1) nb frm ni 7 mi no B nn cc C (q1.cell 0) (q3.box.cell 0) (q2.cell 1) (q2.cell 3):Calls prog 20 #[.int .i64 7,[no],.slice B nn cc,g0,.pointer (some ⟨g0+1,0,none⟩)] C fun e w'=>e=.returned (.slice (some C.heap.size) 1 1)/\Below C.heap.size C w'/\Answ w' C.heap.size 7 ni frm mi no B nn cc))
   go_wp2_with fail;refine w_h Wd fun o=>?_;refine w_v 0 o ?_ (k:=kz10);go_simp;refine w_v 1 o ?_ (k:=kz10);go_simp;refine w_v 2 o ?_ (k:=kz10);go_simp;refine w_v 3 o ?_ (k:=kz10);go_simp;refine w_v 4 o ?_ (k:=kz10);go_simp;refine w_v 5 o ?_ (k:=kz10);go_simp;refine w_v 6 o ?_ (k:=kz10);go_simp;refine w_v 8 o ?_ (k:=kz10);go_simp;refine w_v 9 o ?_ (k:=kz10);go_simp;refine w_r 7 fun K O=>?_;go_simp
   with_reducible refine(e4.out _ o).mono ?_
   rintro e E ⟨A1,c1,rfl,e5,H⟩;have Q:=H_ (ew2 A1 Y.A.n c1 V.st no E (by have:=(a4.out _ o).2.2.at_.alen;have:=hN.len;omega) (Row.own e5));clear e5;go_simp;refine O.out _ _ (az o H) ?_;clear o O K;intro o;go_simp;refine w_r 10 fun K O=>?_;go_simp
   refine m_ Q ?_
   rintro e b3 ⟨A2,k2,rfl,i4,b5,U⟩;clear i4 Q;go_simp;refine O.out _ _ (az o U) ?_;clear o O K;intro o;go_simp;refine w_r 11 fun K O=>?_;go_simp
   with_reducible refine(a7.out _ o A2 k2 k2).mono ?_
   rintro e e6 ⟨rfl,a0,a8⟩;go_simp;refine O.out _ _ (az o a0) ?_;clear o O K;intro o;go_simp;refine w_v 12 o ?_ (k:=kz10);go_simp;refine w_d ?_;have hz:cv1 X Y w R.1 R.2.1 nb ni now grace frm mi R.2.2 (.returned (.slice (some (b3:Nat)) 1 1)) e6:=by
    have b6:Below Wd Wd b3:=az (az (ax b0_) H) U;have e7:∀a,A2=some a->(Wd:Nat)<=a.block:=fun a ha=>g_ (az (ax b0_) H).size (b5.low a ha);have b8:=b5.row
    skip
    have hn:cv1 X Y Wd S V nb ni now grace frm mi (some (7,no,upto V.st no)) (.returned (.slice (some (b3:Nat)) 1 1)) e6:=(a1.2.2.below e3).told b6 b8 e7 a0 a8;rw[i1.out];exact hn.up rfl rfl (Chg.of_below (f2.trans (e3.mono f2.size)) _) (fun g hg=>.inl hg) (.inl rfl)
   have HZ:=H_ hz;clear hz o H U b5 a0 a8 a7 e4;go_wp2;go_ret;exact HZ
  ·rw[if_neg heq]at I
   rw[decide_eq_false heq]at a';have l1:St.ny1 { mt with floor:=no } (St.uj V):=by
    rw[f1.out];obtain⟨q1,q2,q3⟩:=m4;exact⟨⟨j3,fun e=>by have e2:no=0:=e;omega⟩,⟨q1,fun e=>e⟩,⟨q2,fun e=>e⟩,⟨q3,fun e=>e⟩⟩
   have e9:=fun C (J:Below W9 W9 C)=>aw2 (a1.2.2.below J).at_ { mt with floor:=no } l1 hN.files (by have:=hN.count;omega) hN.name;have f3:=jk4 S V { mt with floor:=no };have ee:({ St.uj V with floor:=no }:Mt)={ mt with floor:=no }:=by rw[f1.out]
   rw[ee]at I;obtain⟨r,hr⟩:∃r,r=St.setMeta S V { mt with floor:=no }:=⟨_,rfl⟩;rw[<-hr]at e9 f3 I;obtain⟨S1,V1,er⟩:=r;unfold az1 Mt.val at e9;simp only at e9 f3 I;have n6:=H_ e9;have i5:=H_ f3;have i1:=H_ I;have j2:=H_ a';clear I heq a' d8 e9 f3 hr ee l1;obtain⟨be,d6⟩:∃be:Bool,((er:Int)==0)=be:=⟨_,rfl⟩;have p3:=H_ d6;go_wp2_with fail;rw[<-k8.out];refine wp_region_held_drew (S:=fun w'=>BoxO w' 25 g0 [nb]/\BoxO w' 39 (w4:Nat) [[mt.floor],[mt.cert],[mt.at_],[mt.lease]]/\BoxO w' 39 (w7:Nat) [[no],[mt.cert],[mt.at_],[mt.lease]]/\BoxO w' 59 nb [ni,Y.s,[now],[grace]]) rfl d'.out (fun o=>?_);refine w_v 0 o ?_ (k:=kz9);go_simp;refine w_v 1 o ?_ (k:=kz9);go_simp;refine w_v 2 o ?_ (k:=kz9);go_simp;refine w_v 3 o ?_ (k:=kz9);go_simp;refine w_v 4 o ?_ (k:=kz9);go_simp;refine w_v 5 o ?_ (k:=kz9);go_simp;refine w_v 6 o ?_ (k:=kz9);go_simp;refine w_v 7 o ?_ (k:=kz9);go_simp;refine w_v 8 o ?_ (k:=kz9);go_simp;refine w_r 9 fun K O=>?_;go_simp
   with_reducible refine(n6.out _ (by first|exact ax b0_|exact Below.refl _ _)).mono ?_
   rintro e E ⟨rfl,hu⟩;go_simp;refine O.out _ _ ⟨o.1.chg hu.c (b2.1 _ (by have:=HW.2;omega)),o.2.1.chg hu.c (b2.1 _ b2.2.1),o.2.2.1.chg hu.c (b2.1 _ b2.2.2),(a1.2.2.below (ax b0_)).box.chg hu.c a1.2.2.out⟩ ?_;clear o O K;intro o;go_simp;refine w_v 10 o ?_ (k:=kz9);go_simp;refine w_v 11 o ?_ (k:=kz9);go_simp;refine w_d ?_;have a2:Below W9 W9 W9.drew:=ax b0_;have i7:=(a1.2.2.below a2).upd hu;have d5:=f2.trans (a2.mono f2.size);have Q:=H_ (d_ i7 d5);have I:=i1.out
   cases be with
   |false=>
    rw[if_neg (fun e=>by rw[e]at d6;cases d6)]at I;have HZ:Hid (cv1 X Y w R.1 R.2.1 nb ni now grace frm mi R.2.2 (.returned (.slice none 0 0)) E):=H_ (by
     rw[I];exact Q.1.mute Q.2)
    clear I d6 i7 d5 a2 hu o d';go_wp2;go_ret;exact HZ
   |true=>
    rw[if_pos (by have:=eq_of_beq d6;omega)]at I;obtain⟨X1,Y1,e1,l2,l3,f4,f10,l4⟩:=i7;have f8:=(a1.1.below a2).chg f4 (b2.1 _ (by have:=HW.2;omega));have f9:=(a1.2.1.below a2).chg f4 (b2.1 _ (by have:=HW.2;omega));have b9:=H_ (d_ f8 (d_ f9 l3));have a9:=H_ (d_ e1 (d_ l2 (d_ f4 (d_ f10 l4))));have n8:=H_ I;clear I d6 d5 a2 hu o d' e1 l2 l3 f4 f10 l4 f8 f9;have a4:Hid (∀C,Below E E C->BoxO C 25 g0 [nb]/\BoxO C 36 (g0+1) [.int .i64 6,frm,ni,[mi],[no],.slice A n c]/\NdAt C X1 S1 Y1 V1 nb ni now grace):=H_ (fun C J=>⟨b9.1.below J,b9.2.1.below J,b9.2.2.below J⟩);have e4:=H_ (fun C (J:Below E E C)=>fy1 (a4.out C J).2.2.at_ (by rw[i5.out];have:=hN.len;omega));have a7:=H_ (fun C (J:Below E E C) B nn cc=>(by
     obtain⟨q1,q2,q3⟩:=a4.out C J;exact eq1 g0 (g0+1) nb frm ni 7 mi no B nn cc C (q1.cell 0) (q3.box.cell 0) (q2.cell 1) (q2.cell 3):Calls prog 20 #[.int .i64 7,[no],.slice B nn cc,g0,.pointer (some ⟨g0+1,0,none⟩)] C fun e w'=>e=.returned (.slice (some C.heap.size) 1 1)/\Below C.heap.size C w'/\Answ w' C.heap.size 7 ni frm mi no B nn cc))
    go_wp2_with fail;refine w_h E fun o=>?_;refine w_v 0 o ?_ (k:=kz10);go_simp;refine w_v 1 o ?_ (k:=kz10);go_simp;refine w_v 2 o ?_ (k:=kz10);go_simp;refine w_v 3 o ?_ (k:=kz10);go_simp;refine w_v 4 o ?_ (k:=kz10);go_simp;refine w_v 5 o ?_ (k:=kz10);go_simp;refine w_v 6 o ?_ (k:=kz10);go_simp;refine w_v 8 o ?_ (k:=kz10);go_simp;refine w_v 9 o ?_ (k:=kz10);go_simp;refine w_r 7 fun K O=>?_;go_simp
    with_reducible refine(e4.out _ o).mono ?_
    rintro e n9 ⟨A1,c1,rfl,e5,H⟩;have Q:=H_ (ew2 A1 Y1.A.n c1 V1.st no n9 (by have:=(a4.out _ o).2.2.at_.alen;rw[i5.out]at this;have:=hN.len;omega) (Row.own e5));clear e5;go_simp;refine O.out _ _ (az o H) ?_;clear o O K;intro o;go_simp;refine w_r 10 fun K O=>?_;go_simp
    refine m_ Q ?_
    rintro e b3 ⟨A2,k2,rfl,i4,b5,U⟩;clear i4 Q;go_simp;refine O.out _ _ (az o U) ?_;clear o O K;intro o;go_simp;refine w_r 11 fun K O=>?_;go_simp
    with_reducible refine(a7.out _ o A2 k2 k2).mono ?_
    rintro e e6 ⟨rfl,a0,a8⟩;go_simp;refine O.out _ _ (az o a0) ?_;clear o O K;intro o;go_simp;refine w_v 12 o ?_ (k:=kz10);go_simp;refine w_d ?_;have hz:cv1 X Y w R.1 R.2.1 nb ni now grace frm mi R.2.2 (.returned (.slice (some (b3:Nat)) 1 1)) e6:=by
     have b6:Below E E b3:=az (az (ax b0_) H) U;have e7:∀a,A2=some a->(E:Nat)<=a.block:=fun a ha=>g_ (az (ax b0_) H).size (b5.low a ha);have b8:=b5.row;rw[i5.out]at b8;have hn:cv1 X1 Y1 E S1 V1 nb ni now grace frm mi (some (7,no,upto V.st no)) (.returned (.slice (some (b3:Nat)) 1 1)) e6:=b9.2.2.told b6 b8 e7 a0 a8;rw[n8.out];exact hn.up a9.1 a9.2.1 ((Chg.of_below Q.2 _).trans a9.2.2.1 (fun g hg=>.inl hg)) (fun g hg=>(a9.2.2.2.1 g hg).imp (fun z=>z) (g_ Q.2.size)) (a9.2.2.2.2.imp (fun z=>z) (fun z a ha=>g_ Q.2.size (z a ha)))
    have HZ:=H_ hz;clear hz o H U b5 a0 a8 a7 e4;go_wp2;go_ret;exact HZ
def Mt.fills (m:Mt) (f:Nat):Bool:=f==m.floor&&decide (m.cert < f)
theorem sy4 (m:Mt) (f:Nat) (w:World):
  Calls prog 71 #[m.val,[f]] w fun e w'=>e=.returned (.bool (m.fills f))/\Below w w w':=by
 have o:=b_ w (.cells #[[m.floor],[m.cert],[m.at_],[m.lease]] 39);obtain⟨fl,E,H,le⟩:=m;obtain⟨r,z⟩:=n_ (Mt.fills ⟨fl,E,H,le⟩ f);rw[<-z];unfold Mt.fills at z;unfold Mt.val;simp only at z o ⊢
 by_cases h1:f=fl
 ·subst h1
  by_cases h2:(E:Int) < (f:Int)
  ·have C:=H_ (z.trans (show _=true by simp;omega))
   clear z;go_enter func71,ntmps71;go_wp2;go_ret;exact⟨ik C.symm,o⟩
  ·have C:=H_ (z.trans (show _=false by simp;omega))
   clear z;go_enter func71,ntmps71;go_wp2;go_ret;exact⟨ik C.symm,o⟩
 ·have I:((f:Int)==(fl:Int))=false:=by rw[beq_eq_false_iff_ne];omega
  have C:=H_ (z.trans (show _=false by simp[h1]));clear z;go_enter func71,ntmps71;go_wp2;go_ret;exact⟨ik C.symm,o⟩
theorem wz4 (m:Mt) (f now:Nat) (w:World) (H:now<=281474976710656):
  Calls prog 28 #[m.val,[f],[now]] w fun e w'=>e=.returned (if f<=m.cert\/m.floor < f then .tuple #[.agg #[.int .u64 0,.int .u64 0,.int .u64 0,.int .u64 0],.bool false] else .tuple #[Mt.val { m with cert:=f,at_:=now },.bool true])/\Below w w w':=by
 have o:∀C E,Below w w ((w.alloc C).alloc E):=fun C E=>(b_ w C).alloc s_ E;unfold Mt.val;simp only;obtain⟨fl,J,O,le⟩:=m;simp only;have I:min (now:Int) 281474976710656=(now:Int):=o_
 by_cases h1:(f:Int)<=(J:Int)
 ·rw[if_pos (.inl o_)]
  have z:=H_ o;clear o;go_enter func28,ntmps28;go_wp2;exact bodyPost_ret (v:=.tuple #[.agg #[.int .u64 0,.int .u64 0,.int .u64 0,.int .u64 0],.bool false]) (by simp[results,go_sem]) rfl ⟨rfl,z.out _ _⟩
 by_cases h2:(fl:Int) < (f:Int)
 ·rw[if_pos (.inr o_)]
  have z:=H_ o;clear o;go_enter func28,ntmps28;go_wp2;exact bodyPost_ret (v:=.tuple #[.agg #[.int .u64 0,.int .u64 0,.int .u64 0,.int .u64 0],.bool false]) (by simp[results,go_sem]) rfl ⟨rfl,z.out _ _⟩
 rw[if_neg o_];have z:=H_ o;clear o;go_enter func28,ntmps28;go_wp2;exact bodyPost_ret (v:=.tuple #[.agg #[[fl],[f],[now],[le]],.bool true]) (by simp[results,go_sem]) rfl ⟨rfl,z.out _ _⟩
def St.fill (S:Sd) (V:Sv) (f:Nat) (l:List It):Sd×Sv×Bool:=if (St.uj V).fills f=true then St.last S V (upto l f) else (S,V,decide (f=V.M.v.cert))
theorem xq4 (h:NdAt w X S Y V nb ni now grace) (hN:Nrm V) (k frm to_:Int) (id no:Nat) (A:Option Addr) (n c:Nat) (l:List It) (hn:n<=1000) (hr:Row w w A n 5 (itc l)) (a1:∀x∈l,x.fit):
  Calls prog 27 #[nb,(St.uj V).val,.agg #[k,frm,to_,[id],[no],.slice A n c]] w fun e w'=>e=.returned (.bool (St.fill S V no l).2.2)/\dv1 X Y w w' (St.fill S V no l).1 (St.fill S V no l).2.1 nb ni now grace:=by
 obtain⟨mt,E⟩:=n_ (St.uj V);obtain⟨R,C⟩:=n_ (St.fill S V no l);rw[<-C,<-E];unfold St.fill at C;rw[<-E,show V.M.v.cert=mt.cert by rw[E];rfl]at C;have o:=(b_ w (.cells #[[mt.floor],[mt.cert],[mt.at_],[mt.lease]] 39)).alloc s_ (.cells #[k,frm,to_,[id],[no],.slice A n c] 36);have O:=(BoxO.new w #[[mt.floor],[mt.cert],[mt.at_],[mt.lease]] 39).alloc (.cells #[k,frm,to_,[id],[no],.slice A n c] 36);have H:=BoxO.new (w.alloc (.cells #[[mt.floor],[mt.cert],[mt.at_],[mt.lease]] 39)) #[k,frm,to_,[id],[no],.slice A n c] 36;rw[F_]at H;obtain⟨W,hW⟩:=n_ ((w.alloc (.cells #[[mt.floor],[mt.cert],[mt.at_],[mt.lease]] 39)).alloc (.cells #[k,frm,to_,[id],[no],.slice A n c] 36));rw[<-hW]at o O H;have I:=sy4 mt no W;obtain⟨b,hb⟩:=n_ (mt.fills no);rw[<-hb]at I C;unfold Mt.val at I ⊢;have a2:=H_ I;have HB:=H_ o;have HX:=H_ (d_ O H);have HH:=H_ h;have J:=H_ hr;clear I o O H h hr E hb;go_enter func27,ntmps27;go_wp2_with fail;rw[<-hW];clear hW
 refine m_ a2 ?_
 rintro e w2 ⟨rfl,o⟩;have z:=H_ (HB.trans (o.mono HB.size));have q1:=(HX.1.below o).c1;have p4:=(HX.2.below o).c4;have p5:=(HX.2.below o).c5;clear o a2
 cases b with
 |false=>
  rw[if_neg s_]at C;have b1:((no:Int)==(mt.cert:Int))=decide (no=mt.cert):=by
   by_cases hq:no=mt.cert
   ·simp[hq]
   ·rw[decide_eq_false hq,beq_eq_false_iff_ne];omega
  obtain⟨d,hd⟩:=n_ (decide (no=mt.cert));rw[<-hd]at C b1;have HZ:Hid (R.2.2=d/\dv1 X Y w w2 R.1 R.2.1 nb ni now grace):=H_ (by
   rw[C];exact⟨rfl,dv1.same HH.out z⟩)
  clear C hd;go_wp2;go_ret;exact⟨ik HZ.1.symm,HZ.2⟩
 |true=>
  rw[if_pos rfl]at C;have a4:=ew2 A n c l no w2 o_ ((J.below z).up z.size);have a5:=H_ a4;have HR:=H_ C;clear a4 C;go_wp2_with fail
  refine m_ a5 ?_
  rintro e w3 ⟨A3,n3,rfl,a6,Q,U⟩;have h3:=HH.below (az z.out U);have a7:=HH.at_.lt;have b2:=aw_ (fun a:It=>decide (a.v<=no)) l;have b3:=J.yw;have a0:=cz3 h3 hN A3 n3 n3 (upto l no) (by unfold upto at a6;omega) l_ Q.row (fun a ha hm=>by
   have:=Q.low a ha;have:=a7 _ hm;have:=z.size;omega) (fun x hx=>a1 x (ac_.1 hx).1)
  rw[<-HR.out]at a0;have b5:=H_ a0;have b6:=H_ (az z.out U);clear a0 h3 a7 b2 b3 Q U a6 a5;go_wp2_with fail
  refine m_ b5 ?_
  rintro e w4 ⟨rfl,hu⟩;have HZ:=H_ (hu.low (B:=0) b6);clear hu;go_wp2;go_ret;exact⟨rfl,HZ⟩
theorem kz16 {P S a oi v} (h:Hv P S a oi v:=by intro w o;(obtain⟨x,y,z⟩:=HK.out _ o;have x0:=x.c0;have y0:=y.c0;have y1:=y.c1;have y2:=y.c2;have y3:=y.c3;have y4:=y.c4;have y5:=y.c5;have z0:=z.box.c0;clear x y z);go_simp;try (with_reducible rfl)):Hv P S a oi v:=h
theorem ek6 (h:NdAt w X S Y V nb ni now grace) (k frm to_:Int) (mi no:Nat) (A:Option Addr) (n c:Nat) (l:List It) (hn:n<=1000) (hr:Row w w A n 5 (itc l)) (U:Mq.ok ⟨k,frm,to_,mi,no,A,n,c⟩ l=false\/to_≠ni):
  Calls prog 7 #[nb,.agg #[k,frm,to_,[mi],[no],.slice A n c]] w (cv1 X Y w S V nb ni now grace frm mi none):=by
 have a2:=b_ w (.cells #[nb] 25);have C:=a2.alloc s_ (.cells #[k,frm,to_,[mi],[no],.slice A n c] 36);have J:=(BoxO.new w #[nb] 25).alloc (.cells #[k,frm,to_,[mi],[no],.slice A n c] 36);have H:=BoxO.new (w.alloc (.cells #[nb] 25)) #[k,frm,to_,[mi],[no],.slice A n c] 36;rw[F_]at H;have h2:=h.below C;obtain⟨W,hW⟩:=n_ ((w.alloc (.cells #[nb] 25)).alloc (.cells #[k,frm,to_,[mi],[no],.slice A n c] 36));obtain⟨g0,a0⟩:=n_ (w:Nat);rw[<-hW]at C J H h2;rw[<-a0]at J H;have I:=fun W' (Q:Below W W W')=>vz2 ⟨k,frm,to_,mi,no,A,n,c⟩ l W' (by simp only;omega) ((((hr.below C).up C.size).below Q).up Q.size);obtain⟨ok,a4⟩:=n_ (Mq.ok ⟨k,frm,to_,mi,no,A,n,c⟩ l);rw[<-a4]at I U;unfold Mq.val at I;simp only at I;have O:=H_ I;have HK:=H_ (fun W' (Q:Below W W W')=>d_ (J.below Q) (d_ (H.below Q) (h2.below Q)));have HZ:=H_ (fun W' (Q:Below W W W')=>(dv1.same h (C.trans (Q.mono C.size))).mute (w:=w) (mf:=frm) (mi:=mi) b0_);have HW:=H_ (d_ hW a0);have a5:=H_ U;clear I h2 J H a2 C hW a0 hr h a4 U
 cases ok with
 |false=>
  go_enter func7,ntmps7;go_wp2_with fail;rw[<-HW.1,<-HW.2];refine w_h W fun o=>?_;refine w_v 0 o ?_ (k:=kz16);go_simp;refine w_r 1 fun K hK=>?_;go_simp
  with_reducible refine(O.out _ o).mono ?_
  rintro e w3 ⟨rfl,E⟩;go_simp;refine hK.out _ _ (az o E) ?_;clear o hK K;intro o;go_simp;refine w_v 2 o ?_ (k:=kz16);go_simp;refine w_v 3 o ?_ (k:=kz16);go_simp;refine wpT0 (i:=4) o ?_;go_simp;refine wpT0 (i:=5) o ?_;go_simp;refine wpT0 (i:=6) o ?_;go_simp;refine wpT0 (i:=7) o ?_;go_simp;refine wpT0 (i:=8) o ?_;go_simp;refine wpT0 (i:=9) o ?_;go_simp;refine wpT0 (i:=10) o ?_;go_simp;refine w_v 11 o ?_ (k:=kz16);go_simp;refine w_d ?_;have HQ:=H_ (HZ.out w3 (az (ax b0_) E));clear o E O HK HZ;go_wp2;go_ret;exact HQ
 |true=>
  have e1:(to_==ni)=false:=by have:=a5.out;simpa using this
  have e2:(to_ !=ni)=true:=by have:=a5.out;simpa using this
  go_enter func7,ntmps7;go_wp2_with fail;rw[<-HW.1,<-HW.2];refine w_h W fun o=>?_;refine w_v 0 o ?_ (k:=kz16);go_simp;refine w_r 1 fun K hK=>?_;go_simp
  with_reducible refine(O.out _ o).mono ?_
  rintro e w3 ⟨rfl,E⟩;go_simp;refine hK.out _ _ (az o E) ?_;clear o hK K;intro o;go_simp;refine w_v 2 o ?_ (k:=kz16);go_simp;refine w_v 3 o ?_ (k:=kz16);go_simp;refine w_v 4 o ?_ (k:=kz16);go_simp;refine w_v 5 o ?_ (k:=kz16);go_simp;refine w_v 6 o ?_ (k:=kz16);go_simp;refine w_v 7 o ?_ (k:=kz16);go_simp;refine w_v 8 o ?_ (k:=kz16);go_simp;refine w_v 9 o ?_ (k:=kz16);go_simp;refine w_v 10 o ?_ (k:=kz16);go_simp;refine w_v 11 o ?_ (k:=kz16);go_simp;refine w_d ?_;have HQ:=H_ (HZ.out w3 (az (ax b0_) E));clear o E O HK HZ;go_wp2;go_ret;exact HQ
theorem gq6 (h:NdAt w X S Y V nb ni now grace) (hN:Nrm V) (frm:Int) (mi no:Nat) (A:Option Addr) (n c:Nat) (l:List It) (k:Int) (a1:Mq.ok ⟨k,frm,ni,mi,no,A,n,c⟩ l=true) (hn:n<=1000) (hr:Row w w A n 5 (itc l)) (ho:k≠1/\k≠4/\k≠6/\k≠8/\k≠10):
  Calls prog 7 #[nb,.agg #[k,frm,ni,[mi],[no],.slice A n c]] w (cv1 X Y w S V nb ni now grace frm mi none):=by
 have a4:=b_ w (.cells #[nb] 25);have C:=a4.alloc s_ (.cells #[k,frm,ni,[mi],[no],.slice A n c] 36);have H:=(BoxO.new w #[nb] 25).alloc (.cells #[k,frm,ni,[mi],[no],.slice A n c] 36);have E:=BoxO.new (w.alloc (.cells #[nb] 25)) #[k,frm,ni,[mi],[no],.slice A n c] 36;rw[F_]at E;have h2:=h.below C;have d1:∀(fn:Fn) (first cap:Array Value) (w:World),(Instr.makeFunc fn first cap).run prog w=.ok (.func fn first cap) w:=fun _ _ _ _=>rfl;obtain⟨W,hW⟩:=n_ ((w.alloc (.cells #[nb] 25)).alloc (.cells #[k,frm,ni,[mi],[no],.slice A n c] 36));obtain⟨g0,J⟩:=n_ (w:Nat);rw[<-hW]at C H E h2;rw[<-J]at H E;have I:=fun W' (hb:Below W W W')=>vz2 ⟨k,frm,ni,mi,no,A,n,c⟩ l W' (by simp only;omega) ((((hr.below C).up C.size).below hb).up hb.size);simp only[a1]at I;unfold Mq.val at I;simp only at I;have a5:=H_ I;have H2:=H_ h2;have HX:=H_ (d_ H E);have HB:=H_ C;have HW:=H_ (d_ hW J);have b7:=H_ ((hr.below C).up C.size);have HL:=H_ (d_ h.at_.lt (d_ h.box.lt h.at_.dm.env.base));have HK:=H_ (fun W' (hb:Below W W W')=>d_ (H.below hb) (d_ (E.below hb) (h2.below hb)));have HH:=H_ h;clear I h2 H E a4 C hW J hr h a1;have e1:(k==1)=false:=by simpa using ho.1
 have e4:(k==4)=false:=by simpa using ho.2.1
 have e6:(k==6)=false:=by simpa using ho.2.2.1
 have e8:(k==8)=false:=by simpa using ho.2.2.2.1
 have d3:(k==10)=false:=by simpa using ho.2.2.2.2
 go_enter func7,ntmps7;go_wp2_with fail;rw[<-HW.1,<-HW.2];refine w_h W fun o=>?_;refine w_v 0 o ?_ (k:=kz16);go_simp;refine w_r 1 fun K hK=>?_;go_simp
 with_reducible refine(a5.out _ o).mono ?_
 rintro e w3 ⟨rfl,O⟩;go_simp;refine hK.out _ _ (az o O) ?_;clear o hK K;intro o;go_simp;refine w_v 2 o ?_ (k:=kz16);go_simp;refine w_v 3 o ?_ (k:=kz16);go_simp;refine w_v 4 o ?_ (k:=kz16);go_simp;refine w_v 5 o ?_ (k:=kz16);go_simp;refine w_v 6 o ?_ (k:=kz16);go_simp;refine w_v 7 o ?_ (k:=kz16);go_simp;refine w_v 8 o ?_ (k:=kz16);go_simp;refine w_v 9 o ?_ (k:=kz16);go_simp;refine w_v 10 o ?_ (k:=kz16);go_simp;refine w_v 11 o ?_ (k:=kz16);go_simp;refine w_d ?_;have Q:=az (ax (Below.refl W W)) O;clear o O a5;obtain⟨x,y,z⟩:=HK.out _ Q;have x0:=x.c0;have z1:=z.box.c1;have a6:=H_ (aw1 z.at_ (by have:=hN.files;omega));have b2:=H_ Q;clear x y z Q;go_wp2_with fail
 refine m_ a6 ?_
 rintro e w4 ⟨rfl,a7⟩;obtain⟨mt,U⟩:=n_ (St.uj V);have b3:=H_ (az b2.out a7);have a8:=az b3.out (b_ w4 (.cells #[[mt.floor],[mt.cert],[mt.at_],[mt.lease]] 39));have d4:=H_ (BoxO.new w4 #[[mt.floor],[mt.cert],[mt.at_],[mt.lease]] 39);have a9:=H_ a8;rw[<-U];unfold Mt.val;have d5:=H_ U;clear U a7 a6 x0 z1 a8;obtain⟨x,y,z⟩:=HK.out _ a9;have x0:=x.c0;have y0:=y.c0;have y1:=y.c1;have y3:=y.c3;have y4:=y.c4;have y5:=y.c5;have z0:=z.box.c0;have z1:=z.box.c1;have HZ:Hid (cv1 X Y w S V nb ni now grace frm mi none (.returned (.slice none 0 0)) (w4.alloc (.cells #[[mt.floor],[mt.cert],[mt.at_],[mt.lease]] 39))):=H_ ((dv1.same HH.out (HB.trans (a9.mono HB.size))).mute (w:=w) b0_);clear x y z;go_wp2;go_ret;exact HZ
theorem rq5 (h:NdAt w X S Y V nb ni now grace) (hN:Nrm V) (frm:Int) (mi no:Nat) (A:Option Addr) (n c:Nat) (l:List It) (a9:Mq.ok ⟨8,frm,ni,mi,no,A,n,c⟩ l=true) (hn:n<=1000) (hr:Row w w A n 5 (itc l)) (a':∀x∈l,x.fit):
  Calls prog 7 #[nb,.agg #[.int .i64 8,frm,ni,[mi],[no],.slice A n c]] w (cv1 X Y w (St.fill S V no l).1 (St.fill S V no l).2.1 nb ni now grace frm mi (if (St.fill S V no l).2.2=true then some (9,no,[]) else none)):=by
 obtain⟨R,hR⟩:=n_ (St.fill S V no l);obtain⟨an,Q⟩:∃an:Option (Int×Nat×List It),an=if (St.fill S V no l).2.2=true then some (9,no,[]) else none:=⟨_,rfl⟩
 rw[<-Q,<-hR];rw[<-hR]at Q;have HR:=H_ (d_ hR Q);clear hR Q;have b1:=b_ w (.cells #[nb] 25);have C:=b1.alloc s_ (.cells #[.int .i64 8,frm,ni,[mi],[no],.slice A n c] 36);have I:=(BoxO.new w #[nb] 25).alloc (.cells #[.int .i64 8,frm,ni,[mi],[no],.slice A n c] 36);have E:=BoxO.new (w.alloc (.cells #[nb] 25)) #[.int .i64 8,frm,ni,[mi],[no],.slice A n c] 36;rw[F_]at E;have h2:=h.below C;have f7:∀(fn:Fn) (first cap:Array Value) (w:World),(Instr.makeFunc fn first cap).run prog w=.ok (.func fn first cap) w:=fun _ _ _ _=>rfl;obtain⟨W,hW⟩:=n_ ((w.alloc (.cells #[nb] 25)).alloc (.cells #[.int .i64 8,frm,ni,[mi],[no],.slice A n c] 36));obtain⟨g0,a2⟩:=n_ (w:Nat);rw[<-hW]at C I E h2;rw[<-a2]at I E;have J:=fun W' (hb:Below W W W')=>vz2 ⟨8,frm,ni,mi,no,A,n,c⟩ l W' (by simp only;omega) ((((hr.below C).up C.size).below hb).up hb.size);simp only[a9]at J;unfold Mq.val at J;simp only at J;have b2:=H_ J;have H2:=H_ h2;have HX:=H_ (d_ I E);have HB:=H_ C;have HW:=H_ (d_ hW a2);have b3:=H_ ((hr.below C).up C.size);have HL:=H_ (d_ h.at_.lt (d_ h.box.lt h.at_.dm.env.base));have HK:=H_ (fun W' (hb:Below W W W')=>d_ (I.below hb) (d_ (E.below hb) (h2.below hb)));have HH:=H_ h;clear J h2 I E b1 C hW a2 hr h a9;go_enter func7,ntmps7;go_wp2_with fail;rw[<-HW.1,<-HW.2];refine w_h W fun o=>?_;refine w_v 0 o ?_ (k:=kz16);go_simp;refine w_r 1 fun K hK=>?_;go_simp
 with_reducible refine(b2.out _ o).mono ?_
 rintro e w3 ⟨rfl,a4⟩;go_simp;refine hK.out _ _ (az o a4) ?_;clear o hK K;intro o;go_simp;refine w_v 2 o ?_ (k:=kz16);go_simp;refine w_v 3 o ?_ (k:=kz16);go_simp;refine w_v 4 o ?_ (k:=kz16);go_simp;refine w_v 5 o ?_ (k:=kz16);go_simp;refine w_v 6 o ?_ (k:=kz16);go_simp;refine w_v 7 o ?_ (k:=kz16);go_simp;refine w_v 8 o ?_ (k:=kz16);go_simp;refine w_v 9 o ?_ (k:=kz16);go_simp;refine w_v 10 o ?_ (k:=kz16);go_simp;refine w_v 11 o ?_ (k:=kz16);go_simp;refine w_d ?_;have a5:=az (ax (Below.refl W W)) a4;clear o a4 b2;obtain⟨x,y,z⟩:=HK.out _ a5;have x0:=x.c0;have z1:=z.box.c1;have b5:=H_ (aw1 z.at_ (by have:=hN.files;omega));have d':=H_ a5;clear x y z a5;go_wp2_with fail
 refine m_ b5 ?_
 rintro e w4 ⟨rfl,b6⟩;obtain⟨mt,a6⟩:=n_ (St.uj V);have e0:=H_ (az d'.out b6);have b7:=az e0.out (b_ w4 (.cells #[[mt.floor],[mt.cert],[mt.at_],[mt.lease]] 39));have g4:=H_ (BoxO.new w4 #[[mt.floor],[mt.cert],[mt.at_],[mt.lease]] 39);have O:=H_ b7;rw[<-a6];unfold Mt.val;have e2:=H_ a6;clear a6 b6 b5 x0 z1 b7;obtain⟨x,y,z⟩:=HK.out _ O;have x0:=x.c0;have y0:=y.c0;have y1:=y.c1;have y3:=y.c3;have y4:=y.c4;have y5:=y.c5;have z0:=z.box.c0;have z1:=z.box.c1;obtain⟨b8,e3,e4⟩:=HL.out;have b9:∀g,(w:Nat)<=g->g∉XY X Y:=fun g hg hm=>by have:=b8 g hm;omega
 have H:=xq4 z hN 8 frm ni mi no A n c l hn ((b3.below O).up O.size) a';rw[<-e2.out]at H;unfold Mt.val at H;rw[<-HR.1]at H;obtain⟨S1,V1,b⟩:=R;simp only at H ⊢;have a1:=H_ (show an=if b=true then some (9,no,[]) else none from HR.2);clear HR;have e5:=H_ H;have U:=H_ (d_ x y);have a0:=H_ b9;have y2:=y.c2;clear H b8 e3 e4 b9 x y z;go_wp2_with fail
 refine m_ e5 ?_
 rintro e w8 ⟨rfl,hu⟩;have HU:=H_ hu;clear x0 y0 y1 y3 y4 y5 z0 z1 y2
 cases b with
 |false=>
  have HZ:Hid (cv1 X Y w S1 V1 nb ni now grace frm mi an (.returned (.slice none 0 0)) w8):=H_ (by
   rw[a1.out,if_neg s_];exact HU.mute (HB.trans (O.mono HB.size)))
  clear hu;go_wp2;go_ret;exact HZ
 |true=>
  obtain⟨X1,Y1,e1,es,h8,c8,f8,_⟩:=hu;have hg:=HW.2;have q0:=(U.1.chg c8 (a0.out _ o_)).c0;have q1:=(U.2.chg c8 (a0.out _ o_)).c1;have q3:=(U.2.chg c8 (a0.out _ o_)).c3;have q4:=(U.2.chg c8 (a0.out _ o_)).c4;have p0:=h8.box.c0;have b':=H_ (eq1 g0 (g0+1) nb frm ni 9 mi no none 0 0 w8 q0 p0 q1 q3);have HZ:Hid (∀e w',e=.returned (.slice (some (w8:Nat)) 1 1)->Below w8 w8 w'->Answ w' w8 9 ni frm mi no none 0 0->cv1 X Y w S1 V1 nb ni now grace frm mi an e w'):=H_ (by
   intro e w' h1 h2 h3;rw[a1.out,if_pos rfl];exact HU.told (HB.trans (O.mono HB.size)) Row.nil_ (fun a ha=>by cases ha) h1 h2 h3)
  clear hg e1 es h8 c8 f8;go_wp2_with fail
  refine m_ b' ?_
  rintro e w9 ⟨rfl,h9,c9⟩;have HY:=H_ (HZ.out _ _ rfl h9 c9);clear h9 c9 HZ b' q0 q1 q3 q4 p0;go_wp2;go_ret;exact HY
end
section
set_option linter.unusedSimpArgs false
variable {w w1 w2:World} {X X1 X2:Dw} {S S1 S2:Sd} {Y Y1 Y2:Yw} {V V1 V2:Sv} {nb now grace:Nat} {ni:Int}
theorem zj3 {α:Type} {Q:α->Prop} {a:α} (h:Q a):∃b,b=a/\Q b:=⟨a,rfl,h⟩
theorem yz3 {b:Nat} {cs:Array Value} {e:TypeId} (_:Below b w1 (w.alloc (.cells cs e)).drew):BoxO (w.alloc (.cells cs e)).drew e w cs.toList:=BoxO.new _ _ _
theorem tq2 {b:Nat} {cs:Array Value} {e:TypeId} (_:Below b w1 (w.alloc (.cells cs e))):BoxO (w.alloc (.cells cs e)) e w cs.toList:=BoxO.new _ _ _
def St.even (S:Sd) (V:Sv) (f now:Nat):Sd×Sv:=if f<=V.M.v.cert\/V.M.v.floor < f then (S,V) else ((St.setMeta S V { St.uj V with cert:=f,at_:=now }).1,(St.setMeta S V { St.uj V with cert:=f,at_:=now }).2.1)
theorem kz23 {P S a oi v} (h:Hv P S a oi v:=by intro w o;(obtain⟨x,y,z⟩:=HK.out _ o;have x0:=x.c0;have y0:=y.c0;have y1:=y.c1;have y2:=y.c2;have y3:=y.c3;have y4:=y.c4;have y5:=y.c5;have z0:=z.box.c0;clear x y z);go_simp;try (with_reducible rfl)):Hv P S a oi v:=h
theorem kz24 {P S a oi v} (h:Hv P S a oi v:=by intro w o;(obtain⟨x,y,z⟩:=HK.out _ (az a0.out o);have hm:=i7.below o;have x0:=x.c0;have y4:=y.c4;have z2:=z.box.c2;have m0:=hm.c0;have m1:=hm.c1;have m2:=hm.c2;have m3:=hm.c3;clear x y z hm);go_simp;try (with_reducible rfl)):Hv P S a oi v:=h
theorem kz25 {P S a oi v} (h:Hv P S a oi v:=by intro w o;(obtain⟨x,y,z⟩:=o;have x0:=x.c0;have z1:=z.c1;have m0:=y.c0;have m1:=y.c1;have m2:=y.c2;have m3:=y.c3;clear x y z);go_simp;try (with_reducible rfl)):Hv P S a oi v:=h
theorem wv5 (h:NdAt w X S Y V nb ni now grace) (hN:Nrm V) (frm:Int) (mi no:Nat) (A:Option Addr) (n c:Nat) (l:List It) (g4:Mq.ok ⟨10,frm,ni,mi,no,A,n,c⟩ l=true) (hn:n<=1000) (hr:Row w w A n 5 (itc l)) (d':now<=281474976710656/\(now=0->V.M.v.at_=0)) (g':V.M.v.floor<=281474976710656/\V.M.v.lease<=281474976710656):
  Calls prog 7 #[nb,.agg #[.int .i64 10,frm,ni,[mi],[no],.slice A n c]] w (cv1 X Y w (St.even S V no now).1 (St.even S V no now).2 nb ni now grace frm mi none):=by
 obtain⟨R,hR⟩:=n_ (St.even S V no now);rw[<-hR];unfold St.even at hR;have HR:=H_ hR;clear hR;have h0:=b_ w (.cells #[nb] 25);have a5:=h0.alloc s_ (.cells #[.int .i64 10,frm,ni,[mi],[no],.slice A n c] 36);have b1:=(BoxO.new w #[nb] 25).alloc (.cells #[.int .i64 10,frm,ni,[mi],[no],.slice A n c] 36);have a':=BoxO.new (w.alloc (.cells #[nb] 25)) #[.int .i64 10,frm,ni,[mi],[no],.slice A n c] 36;rw[F_]at a';have h2:=h.below a5;have l3:∀(fn:Fn) (first cap:Array Value) (w:World),(Instr.makeFunc fn first cap).run prog w=.ok (.func fn first cap) w:=fun _ _ _ _=>rfl;obtain⟨W,hW⟩:=n_ ((w.alloc (.cells #[nb] 25)).alloc (.cells #[.int .i64 10,frm,ni,[mi],[no],.slice A n c] 36));obtain⟨g0,e5⟩:=n_ (w:Nat);rw[<-hW]at a5 b1 a' h2;rw[<-e5]at b1 a';have b2:=fun W' (hb:Below W W W')=>vz2 ⟨10,frm,ni,mi,no,A,n,c⟩ l W' (by simp only;omega) ((((hr.below a5).up a5.size).below hb).up hb.size);simp only[g4]at b2;unfold Mq.val at b2;simp only at b2;have h6:=H_ b2;have H2:=H_ h2;have HX:=H_ (d_ b1 a');have HB:=H_ a5;have HW:=H_ (d_ hW e5);have k1:=H_ ((hr.below a5).up a5.size);have HL:=H_ (d_ h.at_.lt (d_ h.box.lt h.at_.dm.env.base));have HK:=H_ (fun W' (hb:Below W W W')=>d_ (b1.below hb) (d_ (a'.below hb) (h2.below hb)));have HH:=H_ h;have e1:=H_ (d_ d' g');clear d' g';clear b2 h2 b1 a' h0 a5 hW e5 hr h g4;go_enter func7,ntmps7;go_wp2_with fail;rw[<-HW.1,<-HW.2];refine w_h W fun o=>?_;refine w_v 0 o ?_ (k:=kz23);go_simp;refine w_r 1 fun K H=>?_;go_simp
 with_reducible refine(h6.out _ o).mono ?_
 rintro e w3 ⟨rfl,e6⟩;go_simp;refine H.out _ _ (az o e6) ?_;clear o H K;intro o;go_simp;refine w_v 2 o ?_ (k:=kz23);go_simp;refine w_v 3 o ?_ (k:=kz23);go_simp;refine w_v 4 o ?_ (k:=kz23);go_simp;refine w_v 5 o ?_ (k:=kz23);go_simp;refine w_v 6 o ?_ (k:=kz23);go_simp;refine w_v 7 o ?_ (k:=kz23);go_simp;refine w_v 8 o ?_ (k:=kz23);go_simp;refine w_v 9 o ?_ (k:=kz23);go_simp;refine w_v 10 o ?_ (k:=kz23);go_simp;refine w_v 11 o ?_ (k:=kz23);go_simp;refine w_d ?_;have e7:=az (ax (Below.refl W W)) e6;clear o e6 h6;obtain⟨x,y,z⟩:=HK.out _ e7;have x0:=x.c0;have z1:=z.box.c1;have h7:=H_ (aw1 z.at_ (by have:=hN.files;omega));have i':=H_ e7;clear x y z e7;go_wp2_with fail
 refine m_ h7 ?_
 rintro e w4 ⟨rfl,h9⟩;obtain⟨mt,e9⟩:=n_ (St.uj V);have j0:=H_ (az i'.out h9);have h':=az j0.out (b_ w4 (.cells #[[mt.floor],[mt.cert],[mt.at_],[mt.lease]] 39));have j2:=H_ (BoxO.new w4 #[[mt.floor],[mt.cert],[mt.at_],[mt.lease]] 39);have i0:=H_ h';rw[<-e9];unfold Mt.val;have d3:=H_ e9;clear e9 h9 h7 x0 z1 h';obtain⟨x,y,z⟩:=HK.out _ i0;have x0:=x.c0;have y0:=y.c0;have y1:=y.c1;have y3:=y.c3;have y4:=y.c4;have y5:=y.c5;have z0:=z.box.c0;have z1:=z.box.c1;clear x y z;obtain⟨W6,d4⟩:=n_ (w4.alloc (.cells #[[mt.floor],[mt.cert],[mt.at_],[mt.lease]] 39));have a0:Hid (Below W W W6):=H_ (by rw[d4];exact i0);have i7:Hid (BoxO W6 39 (w4:Nat) [[mt.floor],[mt.cert],[mt.at_],[mt.lease]]):=H_ (by rw[d4];exact j2);have i1:=H_ d4;have O:=fun W' (_:Below W6 W6 W')=>wz4 mt no now W' e1.1.1;unfold Mt.val at O;simp only at O;have d5:=H_ O;clear O d4;have hR:=HR.out;rw[show V.M.v.floor=mt.floor by rw[d3.out];rfl,show V.M.v.cert=mt.cert by rw[d3.out];rfl]at hR;have d6:=H_ hR;clear hR HR
 by_cases b0:no<=mt.cert\/mt.floor < no
 ·have O:=d5.out
  rw[if_pos b0]at O;have a2:=H_ O;have hR:=d6.out;rw[if_pos b0]at hR;have j3:=H_ hR;have HZ:Hid (∀w',Below W6 W6 w'->cv1 X Y w R.1 R.2 nb ni now grace frm mi none (.returned (.slice none 0 0)) w'):=H_ (fun w' hb=>by
   rw[j3.out];exact((dv1.same HH.out (HB.trans ((az a0.out hb).mono HB.size))).mute (w:=w) b0_))
  clear O d5 b0 hR d6;go_wp2_with fail;rw[<-i1.out];refine w_h W6 fun o=>?_;refine w_v 0 o ?_ (k:=kz24);go_simp;refine w_v 1 o ?_ (k:=kz24);go_simp;refine w_v 2 o ?_ (k:=kz24);go_simp;refine w_v 3 o ?_ (k:=kz24);go_simp;refine w_v 4 o ?_ (k:=kz24);go_simp;refine w_v 5 o ?_ (k:=kz24);go_simp;refine w_v 6 o ?_ (k:=kz24);go_simp;refine wpAnyH_ready (rs:=[7,11]) (by kernel_rfl) s_ ?_;refine AllReadyH.cons rfl (fun K H=>?_) (AllReadyH.cons rfl (fun K H=>?_) AllReadyH.nil)
  ·go_simp
   with_reducible refine(a2.out _ o).mono ?_
   rintro e w7 ⟨rfl,J⟩;go_simp;refine H.out _ _ (az o J) ?_;clear o H K;intro o;go_simp
   (have U:=o;first|have C:=C.below J|skip);(refine w_v 8 o ?_ (k:=kz24);go_simp);(refine w_v 9 o ?_ (k:=kz24);go_simp);(refine w_v 10 o ?_ (k:=kz24);go_simp)
   refine w_r 11 fun K H=>?_
   ·have E:=o.size
    go_simp;refine H.out _ _ (o.alloc o.size _) ?_;clear o H K;intro o;go_simp
    first|have C:=tq2 o|have C:=yz3 o
    refine w_r 12 fun K H=>?_
    (have f0:=C.free 0;have f1:=C.free 1;have f2:=C.free 2;have f3:=C.free 3;have p0:=C.c0;have p1:=C.c1;have p2:=C.c2;have p3:=C.c3)
    go_simp;refine H.out _ _ (by with_reducible first|exact U.alloc E _|exact(((o.setCell E _).setCell E _).setCell E _).setCell E _) ?_;clear o H K;intro o;go_simp;refine w_v 13 o ?_ (k:=kz24);go_simp;refine w_d ?_;have HY:=H_ (HZ.out _ o);clear o C E J U a2 HZ;go_wp2;go_ret;exact HY
  ·have E:=o.size
   go_simp;refine H.out _ _ (o.alloc o.size _) ?_;clear o H K;intro o;go_simp
   first|have C:=tq2 o|have C:=yz3 o
   refine w_r 7 fun K H=>?_
   ·go_simp
    with_reducible refine(a2.out _ o).mono ?_
    rintro e w7 ⟨rfl,J⟩;go_simp;refine H.out _ _ (az o J) ?_;clear o H K;intro o;go_simp
    (have U:=o;first|have C:=C.below J|skip);(refine w_v 8 o ?_ (k:=kz24);go_simp);(refine w_v 9 o ?_ (k:=kz24);go_simp);(refine w_v 10 o ?_ (k:=kz24);go_simp)
    refine w_r 12 fun K H=>?_
    (have f0:=C.free 0;have f1:=C.free 1;have f2:=C.free 2;have f3:=C.free 3;have p0:=C.c0;have p1:=C.c1;have p2:=C.c2;have p3:=C.c3)
    go_simp;refine H.out _ _ (by with_reducible first|exact U.alloc E _|exact(((o.setCell E _).setCell E _).setCell E _).setCell E _) ?_;clear o H K;intro o;go_simp;refine w_v 13 o ?_ (k:=kz24);go_simp;refine w_d ?_;have HY:=H_ (HZ.out _ o);clear o C E J U a2 HZ;go_wp2;go_ret;exact HY
 ·have O:=d5.out
  rw[if_neg b0]at O;have a2:=H_ O;have hR:=d6.out;rw[if_neg b0]at hR;have e':St.ny1 { St.uj V with cert:=no,at_:=now } (St.uj V):=by
   obtain⟨⟨q1,q2⟩,q3,q4⟩:=e1.out;have ef:mt.floor=V.M.v.floor:=by rw[d3.out];rfl
   exact⟨⟨q3,fun e=>e⟩,⟨by show no<=_;omega,fun e=>by have e2:no=0:=e;omega⟩,⟨q1,q2⟩,⟨q4,fun e=>e⟩⟩
  have ee:({ St.uj V with cert:=no,at_:=now }:Mt)={ mt with cert:=no,at_:=now }:=by rw[d3.out]
  rw[ee]at hR e';obtain⟨r,hr⟩:∃r,r=St.setMeta S V { mt with cert:=no,at_:=now }:=⟨_,rfl⟩;have b3:=fun W' (hb:Below W6 W6 W')=>aw2 (HK.out _ (az a0.out hb)).2.2.at_ { mt with cert:=no,at_:=now } e' hN.files (by have:=hN.count;omega) hN.name;rw[<-hr]at b3 hR;obtain⟨S1,V1,er⟩:=r;unfold az1 Mt.val at b3;simp only at b3 hR;have d7:=H_ b3;have i2:=H_ hR;clear O d5 b0 hR d6 e' ee b3 hr;go_wp2_with fail;rw[<-i1.out];refine w_h W6 fun o=>?_;refine w_v 0 o ?_ (k:=kz24);go_simp;refine w_v 1 o ?_ (k:=kz24);go_simp;refine w_v 2 o ?_ (k:=kz24);go_simp;refine w_v 3 o ?_ (k:=kz24);go_simp;refine w_v 4 o ?_ (k:=kz24);go_simp;refine w_v 5 o ?_ (k:=kz24);go_simp;refine w_v 6 o ?_ (k:=kz24);go_simp;refine wpAnyH_ready (rs:=[7,11]) (by kernel_rfl) s_ ?_;refine AllReadyH.cons rfl (fun K H=>?_) (AllReadyH.cons rfl (fun K H=>?_) AllReadyH.nil)
  ·go_simp
   with_reducible refine(a2.out _ o).mono ?_
   rintro e w7 ⟨rfl,J⟩;go_simp;refine H.out _ _ (az o J) ?_;clear o H K;intro o;go_simp
   (have U:=o;first|have C:=C.below J|skip);(refine w_v 8 o ?_ (k:=kz24);go_simp);(refine w_v 9 o ?_ (k:=kz24);go_simp);(refine w_v 10 o ?_ (k:=kz24);go_simp)
   refine w_r 11 fun K H=>?_
   ·have E:=o.size
    go_simp;refine H.out _ _ (o.alloc o.size _) ?_;clear o H K;intro o;go_simp
    first|have C:=tq2 o|have C:=yz3 o
    refine w_r 12 fun K H=>?_
    (have f0:=C.free 0;have f1:=C.free 1;have f2:=C.free 2;have f3:=C.free 3;have p0:=C.c0;have p1:=C.c1;have p2:=C.c2;have p3:=C.c3)
    go_simp;refine H.out _ _ (by with_reducible first|exact U.alloc E _|exact(((o.setCell E _).setCell E _).setCell E _).setCell E _) ?_;clear o H K;intro o;go_simp;refine w_v 13 o ?_ (k:=kz24);go_simp;refine w_d ?_;clear a2;go_wp2_with fail
    first|(with_reducible have I:=tq2 o)|have I:=(((C.store 0 (.int .u64 mt.floor)).store 1 (.int .u64 no)).store 2 (.int .u64 now)).store 3 (.int .u64 mt.lease)
    simp only[T_,Q_]at I;obtain⟨W8,b5,h8,I⟩:=zj3 (Q:=fun W=>Below W6 W6 W/\BoxO W 39 _ [[mt.floor],[no],[now],[mt.lease]]) ⟨o,I⟩;obtain⟨g8,b6,I,a6⟩:=zj3 (Q:=fun g=>BoxO W8 39 g [[mt.floor],[no],[now],[mt.lease]]/\(W6:Nat)<=g) ⟨I,E⟩;rw[<-b5];rw[<-b6];have a4:Below W8 W8 W8.drew:=ax b0_;have b7:=d7.out _ (az h8 a4);obtain⟨x,y,z⟩:=HK.out _ (az a0.out (az h8 a4));have b8:=H_ b7;have b9:=H_ (HB.trans ((az a0.out (az h8 a4)).mono HB.size));have a9:=H_ z;have b':=H_ (show ∀g,(w:Nat)<=g->g∉XY X Y from fun g hg hm=>by have:=HL.1 g hm;omega);have f4:=H_ (g_ (g_ HB.size a0.size) a6);have f5:BoxO W8.drew 25 g0 [nb]/\BoxO W8.drew 39 g8 [[mt.floor],[no],[now],[mt.lease]]/\BoxO W8.drew 59 nb [ni,Y.s,[now],[grace]]:=⟨x,I,z.box⟩;clear o C I E J U x y z d7 h8 a4 b7 a6 b6 b5;refine wp_region_held_drew (S:=fun w'=>BoxO w' 25 g0 [nb]/\BoxO w' 39 g8 [[mt.floor],[no],[now],[mt.lease]]/\BoxO w' 59 nb [ni,Y.s,[now],[grace]]) rfl f5 (fun o=>?_)
    (refine w_v 0 o ?_ (k:=kz25);go_simp)
    (refine w_v 1 o ?_ (k:=kz25);go_simp)
    (refine w_v 2 o ?_ (k:=kz25);go_simp)
    (refine w_v 3 o ?_ (k:=kz25);go_simp)
    (refine w_v 4 o ?_ (k:=kz25);go_simp)
    refine w_r 5 fun K H=>?_;go_simp
    refine m_ b8 ?_
    rintro e f6 ⟨rfl,hu⟩;go_simp;refine H.out _ _ ⟨o.1.chg hu.c (b'.out _ (by have:=HW.2;omega)),o.2.1.chg hu.c (b'.out _ f4),o.2.2.chg hu.c a9.out.out⟩ (fun f7=>?_);clear H K o f7;go_simp;refine w_d ?_;have hz:cv1 X Y w R.1 R.2 nb ni now grace frm mi none (.returned (.slice none 0 0)) f6:=by rw[i2.out];exact(a9.upd hu).mute b9
    have HZ:=H_ hz;clear hz hu a9 b8 b9;go_wp2;go_ret;exact HZ
  ·have E:=o.size
   go_simp;refine H.out _ _ (o.alloc o.size _) ?_;clear o H K;intro o;go_simp
   first|have C:=tq2 o|have C:=yz3 o
   refine w_r 7 fun K H=>?_
   ·go_simp
    with_reducible refine(a2.out _ o).mono ?_
    rintro e w7 ⟨rfl,J⟩;go_simp;refine H.out _ _ (az o J) ?_;clear o H K;intro o;go_simp
    (have U:=o;first|have C:=C.below J|skip);(refine w_v 8 o ?_ (k:=kz24);go_simp);(refine w_v 9 o ?_ (k:=kz24);go_simp);(refine w_v 10 o ?_ (k:=kz24);go_simp)
    refine w_r 12 fun K H=>?_
    (have f0:=C.free 0;have f1:=C.free 1;have f2:=C.free 2;have f3:=C.free 3;have p0:=C.c0;have p1:=C.c1;have p2:=C.c2;have p3:=C.c3)
    go_simp;refine H.out _ _ (by with_reducible first|exact U.alloc E _|exact(((o.setCell E _).setCell E _).setCell E _).setCell E _) ?_;clear o H K;intro o;go_simp;refine w_v 13 o ?_ (k:=kz24);go_simp;refine w_d ?_;clear a2;go_wp2_with fail
    first|(with_reducible have I:=tq2 o)|have I:=(((C.store 0 (.int .u64 mt.floor)).store 1 (.int .u64 no)).store 2 (.int .u64 now)).store 3 (.int .u64 mt.lease)
    simp only[T_,Q_]at I;obtain⟨W8,b5,h8,I⟩:=zj3 (Q:=fun W=>Below W6 W6 W/\BoxO W 39 _ [[mt.floor],[no],[now],[mt.lease]]) ⟨o,I⟩;obtain⟨g8,b6,I,a6⟩:=zj3 (Q:=fun g=>BoxO W8 39 g [[mt.floor],[no],[now],[mt.lease]]/\(W6:Nat)<=g) ⟨I,E⟩;rw[<-b5];rw[<-b6];have a4:Below W8 W8 W8.drew:=ax b0_;have b7:=d7.out _ (az h8 a4);obtain⟨x,y,z⟩:=HK.out _ (az a0.out (az h8 a4));have b8:=H_ b7;have b9:=H_ (HB.trans ((az a0.out (az h8 a4)).mono HB.size));have a9:=H_ z;have b':=H_ (show ∀g,(w:Nat)<=g->g∉XY X Y from fun g hg hm=>by have:=HL.1 g hm;omega);have f4:=H_ (g_ (g_ HB.size a0.size) a6);have f5:BoxO W8.drew 25 g0 [nb]/\BoxO W8.drew 39 g8 [[mt.floor],[no],[now],[mt.lease]]/\BoxO W8.drew 59 nb [ni,Y.s,[now],[grace]]:=⟨x,I,z.box⟩;clear o C I E J U x y z d7 h8 a4 b7 a6 b6 b5;refine wp_region_held_drew (S:=fun w'=>BoxO w' 25 g0 [nb]/\BoxO w' 39 g8 [[mt.floor],[no],[now],[mt.lease]]/\BoxO w' 59 nb [ni,Y.s,[now],[grace]]) rfl f5 (fun o=>?_)
    (refine w_v 0 o ?_ (k:=kz25);go_simp)
    (refine w_v 1 o ?_ (k:=kz25);go_simp)
    (refine w_v 2 o ?_ (k:=kz25);go_simp)
    (refine w_v 3 o ?_ (k:=kz25);go_simp)
    (refine w_v 4 o ?_ (k:=kz25);go_simp)
    refine w_r 5 fun K H=>?_;go_simp
    refine m_ b8 ?_
    rintro e f6 ⟨rfl,hu⟩;go_simp;refine H.out _ _ ⟨o.1.chg hu.c (b'.out _ (by have:=HW.2;omega)),o.2.1.chg hu.c (b'.out _ f4),o.2.2.chg hu.c a9.out.out⟩ (fun f7=>?_);clear H K o f7;go_simp;refine w_d ?_;have hz:cv1 X Y w R.1 R.2 nb ni now grace frm mi none (.returned (.slice none 0 0)) f6:=by rw[i2.out];exact(a9.upd hu).mute b9
    have HZ:=H_ hz;clear hz hu a9 b8 b9;go_wp2;go_ret;exact HZ
end
namespace Nd
structure NS (q:Int) (S:Sd) (V:Sv) (c d:Nat):Prop where
 calm:Calm S
 quota:S.quota=q
 only:V.only=false
 nm:V.nm=St.jw
 log:∃t,cont S St.jw=some t/\t.length<=c
 man:∃t,cont S (Mw.man 1)=some t/\t.length<=d
 small:Small S [St.jw,Mw.man 1,Mw.kCur] 70000
 sz:V.sz<=c
 ct:V.ct<=c
 mem:V.mem.length<=c
 tabs:V.tabs=[]
 st:Stt V.st
 name:V.M.name=Mw.man 1
 br:V.M.broken=false
 ok:V.M.v.ok=true
 files:V.M.v.files=[]
 count:V.M.count<=d
def v0:Sv:=⟨{ St.first with name:=Mw.man 1,count:=1 },St.jw,0,0,[],[],[],false⟩
theorem born (q:Int) (h1:500000<=q) (h2:q<=1099511627776):∃S,St.create (Sd.new q)=(S,some v0,0)/\NS q S v0 0 100:=by
 have J:=Calm.new q h2;obtain⟨d6,q1,O,Q,z⟩:=lw3 (K:=[]) (B:=2100) J ⟨fun s x o=>(by rw[Calm.rq1]at o;cases o),fun s x o=>(by rw[Calm.rq1]at o;cases o)⟩ s_ (fun s x o=>(by rw[Calm.rq1]at o;cases o)) l_ (by simp[Sd.new];omega);have H:St.jw≠Mw.gy:=by decide
 have U:St.jw≠Mw.kCur:=by decide
 have n3:St.jw≠Mw.man 1:=by decide+kernel
 have I:Mw.man 1≠Mw.gy:=by decide+kernel
 have n5:Mw.man 1≠Mw.kCur:=by decide+kernel
 have C:St.first.v.whole.rec_.length<=100:=by decide+kernel
 have E:(Mw.headB 1).length<=70000:=by decide+kernel
 refine⟨d6,q1,O,by rw[Q];simp[Sd.new];omega,rfl,rfl,⟨[],?_,A_ _⟩,⟨St.first.v.whole.rec_,?_,C⟩,⟨fun s x o=>?_,fun s x o=>?_⟩,A_ _,A_ _,A_ _,rfl,Stt.nil,rfl,rfl,by decide+kernel,rfl,by decide⟩
 ·rw[z]
  unfold upd;rw[if_neg H,if_neg U,if_neg H,if_neg n3,if_pos rfl]
 ·rw[z]
  unfold upd;rw[if_neg I,if_neg n5,if_neg I,if_pos rfl]
 all_goals
  rw[z,Calm.rq1]at o;unfold upd at o;split at o
  ·cases o
  ·split at o
   ·injection o with o
    subst_vars
    first|simp|exact E
   ·split at o
    ·injection o with o
     subst_vars
     first|simp|omega
    ·split at o
     ·injection o with o
      subst_vars;simp
     ·cases o
variable {q:Int} {S:Sd} {V:Sv} {c d:Nat}
theorem NS.nrm (h:NS q S V c d) (z:c<=100000) (hd:d<=100000) (o:V.st.length<=1500):Nrm V:=⟨h.tabs,h.st,o,by have:=h.sz;omega,by have:=h.ct;omega,by have:=h.mem;omega,by rw[h.nm];decide,by rw[h.files];simp,by have:=h.count;omega,by rw[h.name];decide+kernel⟩
theorem NS.sync (h:NS q S V c d):∃S',St.sync S V=(S',V,0)/\NS q S' V c d:=by
 obtain⟨t,o,_⟩:=h.log;obtain⟨z,C,a3,E⟩:=h.calm.sync (s:=St.jw) (by decide+kernel) o;refine⟨(S.sync St.jw).1,?_,⟨C,by rw[E,h.quota],h.only,h.nm,by rw[a3];exact h.log,by rw[a3];exact h.man,⟨by rw[a3];exact h.small.names,by rw[a3];exact h.small.len⟩,h.sz,h.ct,h.mem,h.tabs,h.st,h.name,h.br,h.ok,h.files,h.count⟩⟩;unfold St.sync;rw[if_neg (by rw[h.only];simp),h.nm,if_pos z]
theorem NS.apply (h:NS q S V c d) (hq:500000<=q) (hc:c+2000<=70000) {l:List It} (H:l≠[]) (I:l.all It.ok=true) (hl:l.length<=60) (hj:(joins V.st l).length<=1500):
  ∃S' z,St.apply S V l=(S',z,0)/\NS q S' z (c+(22+32 *l.length)) d/\z.st=joins V.st l/\z.M=V.M:=by
 have hb:=Lg.fy2 l;obtain⟨t,J,O⟩:=h.log;obtain⟨t2,C,E⟩:=h.man;obtain⟨ln,Q⟩:=h.calm.qj h.small;have U:Mw.man 1≠St.jw:=by decide+kernel
 obtain⟨a1,a2,a3,a4⟩:=h.calm.append (s:=St.jw) (by decide+kernel) J (Lg.batch l) o_ (by have:=h.quota;simp at Q;omega);refine⟨_,{ V with sz:=V.sz+(Lg.batch l).length,ct:=V.ct+1,mem:=l.foldl wput V.mem,st:=joins V.st l },?_,⟨a2,by rw[a4,h.quota],h.only,h.nm,⟨t++Lg.batch l,?_,?_⟩,⟨t2,?_,E⟩,⟨fun s x o=>?_,fun s x o=>?_⟩,?_,?_,?_,h.tabs,(iy2 l h.st).1,h.name,h.br,h.ok,h.files,h.count⟩,rfl,rfl⟩
 ·unfold St.apply
  rw[if_neg (by rw[h.only];simp),if_neg (by simp[H,I]),if_neg o_,if_neg o_,h.nm];simp only[a1];simp
 ·rw[a3,upd,if_pos rfl]
 ·rw[e_]
  omega
 ·rw[a3,upd,if_neg U]
  exact C
 ·rw[a3,upd]at o
  split at o
  ·subst_vars;simp
  ·exact h.small.names s x o
 ·rw[a3,upd]at o
  split at o
  ·injection o with o
   rw[<-o,e_];omega
  ·exact h.small.len s x o
 ·have:=h.sz
  simp only;omega
 ·have:=h.ct
  simp only;omega
 ·have:=pk1 l V.mem
  have:=h.mem;simp only;omega
theorem NS.mono {c' o:Nat} (h:NS q S V c d) (z:c<=c') (hd:d<=o):NS q S V c' o:=⟨h.calm,h.quota,h.only,h.nm,let ⟨t,a,b⟩:=h.log;⟨t,a,o_⟩,let ⟨t,a,b⟩:=h.man;⟨t,a,o_⟩,h.small,by have:=h.sz;omega,by have:=h.ct;omega,by have:=h.mem;omega,h.tabs,h.st,h.name,h.br,h.ok,h.files,by have:=h.count;omega⟩
end Nd
def Mt.collect (m:Mt) (now grace:Nat):Nat:=if 281474976710656 < m.at_\/281474976710656 - m.at_ < grace\/now < m.at_+grace then 0 else m.cert
theorem jv3 (m:Mt) (now grace:Nat) (w:World):
  Calls prog 15 #[m.val,[now],[grace]] w fun e w'=>e=.returned (.int .u64 ((m.collect now grace:Nat):Int))/\Below w w w':=by
 obtain⟨fl,E,o,le⟩:=m;have C:=b_ w (.cells #[[fl],[E],[o],[le]] 39);obtain⟨R,z⟩:=n_ (Mt.collect ⟨fl,E,o,le⟩ now grace);rw[<-z];unfold Mt.val;simp only;unfold Mt.collect at z;simp only at z
 by_cases h1:(281474976710656:Int) < (o:Int)
 ·rw[if_pos (.inl o_)]at z
  subst z;go_enter func15,ntmps15;go_wp2;go_ret;exact⟨rfl,C⟩
 have H:IntKind.u64.wrap (281474976710656 - (o:Int))=281474976710656 - (o:Int):=be_ _ o_;have f1:((281474976710656:Int) < (o:Int))=False:=eq_false h1
 by_cases h2:281474976710656 - (o:Int) < (grace:Int)
 ·rw[if_pos (.inr (.inl o_))]at z
  subst z;go_enter func15,ntmps15;go_wp2;go_ret;exact⟨rfl,C⟩
 have f2:(281474976710656 - (o:Int) < (grace:Int))=False:=eq_false h2;have I:IntKind.u64.wrap ((o:Int)+(grace:Int))=(o:Int)+(grace:Int):=be_ _ o_
 by_cases h3:(now:Int) < (o:Int)+(grace:Int)
 ·rw[if_pos (.inr (.inr o_))]at z
  subst z;go_enter func15,ntmps15;go_wp2;go_ret;exact⟨rfl,C⟩
 have f3:((now:Int) < (o:Int)+(grace:Int))=False:=eq_false h3;rw[if_neg o_]at z;subst z;go_enter func15,ntmps15;go_wp2;go_ret;exact⟨rfl,C⟩
end Go.Proofs.YtfbkjjdfboagfaaGreatDoor
