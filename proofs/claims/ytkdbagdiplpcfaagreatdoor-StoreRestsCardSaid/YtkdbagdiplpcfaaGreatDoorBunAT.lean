/- Some of the texts. No conditions. -/
import Derived.Test.YtkdbagdiplpcfaaGreatDoorBunAR
import Derived.Test.YtkdbagdiplpcfaaGreatDoorBunAP

set_option linter.unusedSimpArgs false
set_option linter.unusedVariables false
set_option maxRecDepth 100000
set_option maxHeartbeats 16000000
namespace Go.Proofs.YtkdbagdiplpcfaaGreatDoor
open Go.Proofs.Tryz Go Go.RowKit Go.Lib Go.Shelf
structure Ev where
 e:Ed
 D:Option Addr
 m:Nat
 d:Nat
 A:Option Addr
 n:Nat
 c:Nat
structure Vc where
 v:Vw
 A:Option Addr
 n:Nat
 c:Nat
variable {B B' n:Nat} {w w':World} {A:Option Addr} {xs:List Ev} {ys:List Vc}
variable {b0 base:Nat} {gv ov gv' ov':Value} {gs:List Ev} {vs:List Vc}
theorem aj6 {B n size:Nat} {xs:List Value} (h:Row B w A n size xs) {j:Nat} (hj:j < xs.length) {a:Addr} (C:A=some a):a.block < B:=by
 obtain⟨E,e,b,_⟩:=h.cell j hj;rw[C]at e;injection e with e;subst e;exact b
section
variable {P:Sl} {m:Nat} {X X1:Dw} {w w1 w2:World} {S S1:Sd} {M M1:Gs}
theorem Gst.fz4 {C:Sl} {m:Nat} {X X1:Dw} {w w1 w2:World} {S:Sd} {M M1:Gs} (h:Gst P m X w S M w1 X1) (c:Chg [m] w1 w2) (E:GK w2 m X.d M1 C) (H:Vrow w2 X1 m C M1.v.files):Gst C m X w S M1 w2 X1:=
 ⟨h.acc.other c (fun g I=>by rw[a_.1 I];exact⟨by simp,h.lt,h.out,h.ng⟩),E,H,h.lt,h.out,h.ng⟩
theorem kz11 {P S a oi v} (h:Hv P S a oi v:=by intro w C;(obtain⟨z2,z3,z4,z5,z6,z7,y0,y1,y2,y3,y4,y5,y6⟩:=KC.out w C);go_simp;try (with_reducible rfl)):Hv P S a oi v:=h
theorem vz4 (e:Ed) (D:Option Addr) (dm dd:Nat) (A2:Option Addr) (n2 c2:Nat) (m6:dm<=1000000) (m7:n2<=1000000) (j2:Row w.heap.size w D dm 1 (uw e.drop)) (j3:Row w.heap.size w A2 n2 2 (dw e.add)) (p5:P.n<=40)
  (p6:M.count<=1000000000) (p7:M.name.length<=1000) (h0:Gst P m X w S M w X):
  Calls prog 159 #[.pointer (some ⟨m,0,none⟩),e.val D dm dd A2 n2 c2] w (ix1 P m X w (Gw.save S M e)):=by
 obtain⟨R,hR⟩:=n_ (Gw.save S M e);rw[<-hR];unfold Ed.val;have a7:Below w.heap.size w (w.alloc (.cells #[.slice D dm dd,.slice A2 n2 c2,.int .i64 e.log,.int .u64 (e.floor:Int),.int .u64 (e.cert:Int),.int .u64 (e.at_:Int),.int .u64 (e.lease:Int)] 131)):=b_ _ _;have h1:=h0.below a7;have a2:=BoxO.new w #[.slice D dm dd,.slice A2 n2 c2,.int .i64 e.log,.int .u64 (e.floor:Int),.int .u64 (e.cert:Int),.int .u64 (e.at_:Int),.int .u64 (e.lease:Int)] 131;have b2:=(j2.below a7).up a7.size;have b3:=(j3.below a7).up a7.size;have p8:=h0.man.lt;have j5:=a7;generalize hV:w.alloc (.cells #[.slice D dm dd,.slice A2 n2 c2,.int .i64 e.log,.int .u64 (e.floor:Int),.int .u64 (e.cert:Int),.int .u64 (e.at_:Int),.int .u64 (e.lease:Int)] 131)=V at *;have g9:=h1.man.cell 12;have y0:=a2.cell 0;have y1:=a2.cell 1;have y2:=a2.cell 2;have y3:=a2.cell 3;have y4:=a2.cell 4;have y5:=a2.cell 5;have y6:=a2.cell 6;simp only[Gs.cells,gE0,gE1]at g9 y0 y1 y2 y3 y4 y5 y6
 cases a5:M.broken with
 |true=>
  have hh:R=(S,M,14):=by rw[hR,Gw.save,if_pos a5]
  have hl:=H_ (ix1.mk_ hh h1);rw[a5]at g9;clear hR hh a5;go_enter func159,ntmps159;go_wp2;go_ret;exact hl.out
 |false=>
 rw[a5]at g9
 cases I:e.may with
 |false=>
  have hh:R=(S,M,1):=by rw[hR,Gw.save,if_neg (by simp[a5]),if_pos I]
  have U:=iw5 none 0 0 e D dm dd A2 n2 c2 V I m6 m7 b2 b3;unfold Ed.val at U;have HH:=H_ hh;clear hR hh a5 I;go_enter func159,ntmps159;go_wp2_with fail;refine U.mono ?_;rintro e1 w2 ⟨rfl,a4⟩;have hl:=H_ (ix1.mk_ HH.out (h1.below a4));go_wp2;go_ret;exact hl.out
 |true=>
  have m9:=ij3 I;have m':=j2.ilen;have n0:=j3.flen;have p':=Ed.wy2 I;have U:=pw3 none 0 0 [] e D dm dd A2 n2 c2 V I b2 b3 o_ o_ (by unfold maxLen;omega) Row.nil_;have i0:([]:List UInt8)++e.rec_=e.rec_:=rfl;rw[i0]at U;unfold Ed.val at U;obtain⟨a9,Z⟩:∃b,b=(M.v.app e).isSome:=⟨_,rfl⟩;obtain⟨E,a'⟩:∃u,u=(M.v.app e).getD Vw.none_:=⟨_,rfl⟩;have HT:R=if a9=true then Gw.put S M e E else (S,M,1):=by
   rw[hR,Gw.save,if_neg (by simp[a5]),if_neg (by simp[I])];rw[Z,a']
   cases M.v.app e with
   |none=>rfl
   |some u=>rfl
  have j6:=H_ HT;have n1:dm<=40:=o_
  have n3:n2<=40:=o_
  clear hR HT a5 i0 I m9 m' n0;go_enter func159,ntmps159;go_wp2_with fail;refine U.mono ?_;rintro e1 w2 ⟨A,K,c,rfl,b5,q3,q4,a4⟩;have h2:=h1.below a4;have o7:w.heap.size<=w2.heap.size:=h2.acc.c.size;have i1:=a2.below a4;have i2:=(b2.below a4).up a4.size;have i3:=(b3.below a4).up a4.size;have k2:∀w':World,Below w2.heap.size w2 w'->w'.cell? ⟨m,2,none⟩=some (.int .i64 M.v.log)/\w'.cell? ⟨m,3,none⟩=some (.slice P.a P.n P.c)/\w'.cell? ⟨m,4,none⟩=some (.int .u64 (M.v.floor:Int))/\w'.cell? ⟨m,5,none⟩=some (.int .u64 (M.v.cert:Int))/\w'.cell? ⟨m,6,none⟩=some (.int .u64 (M.v.at_:Int))/\w'.cell? ⟨m,7,none⟩=some (.int .u64 (M.v.lease:Int))/\
    w'.cell? ⟨w.heap.size,0,none⟩=some (.slice D dm dd)/\w'.cell? ⟨w.heap.size,1,none⟩=some (.slice A2 n2 c2)/\w'.cell? ⟨w.heap.size,2,none⟩=some (.int .i64 e.log)/\w'.cell? ⟨w.heap.size,3,none⟩=some (.int .u64 (e.floor:Int))/\w'.cell? ⟨w.heap.size,4,none⟩=some (.int .u64 (e.cert:Int))/\w'.cell? ⟨w.heap.size,5,none⟩=some (.int .u64 (e.at_:Int))/\w'.cell? ⟨w.heap.size,6,none⟩=some (.int .u64 (e.lease:Int)):=fun w' hb=>by
   have b6:=(h2.below hb).man;have b0:=i1.below hb;exact⟨b6.cell 2,b6.cell 3,b6.cell 4,b6.cell 5,b6.cell 6,b6.cell 7,b0.cell 0,b0.cell 1,b0.cell 2,b0.cell 3,b0.cell 4,b0.cell 5,b0.cell 6⟩
  have KC:=H_ k2;have b7:∀W,Below w2.heap.size w2 W->Calls prog 177 #[.agg #[.int .i64 M.v.log,.slice P.a P.n P.c,.int .u64 (M.v.floor:Int),.int .u64 (M.v.cert:Int),.int .u64 (M.v.at_:Int),.int .u64 (M.v.lease:Int)],.agg #[.slice D dm dd,.slice A2 n2 c2,.int .i64 e.log,.int .u64 (e.floor:Int),.int .u64 (e.cert:Int),.int .u64 (e.at_:Int),.int .u64 (e.lease:Int)]] W fun r W'=>Below W.heap.size W W'/\∃J nu O,r=.returned (.tuple #[.agg #[.int .i64 E.log,.slice J nu O,.int .u64 (E.floor:Int),.int .u64 (E.cert:Int),.int .u64 (E.at_:Int),.int .u64 (E.lease:Int)],.bool a9])/\(a9=true->lq1 W.heap.size W' J nu O E.files):=fun W hW=>by
   refine(rv4 M.v P.a P.n P.c e D dm dd A2 n2 c2 W o_ o_ o_ ((h2.row.row.below hW).up hW.size) ((i2.below hW).up hW.size) ((i3.below hW).up hW.size)).mono ?_;rintro r W' ⟨hb,hr⟩;refine⟨hb,?_⟩
   cases b8:M.v.app e with
   |none=>
    rw[b8]at hr Z a';subst Z a';exact⟨none,0,0,hr,fun h=>by cases h⟩
   |some u=>
    rw[b8]at hr Z a';subst Z a';obtain⟨A3,N3,c3,hr,hf⟩:=hr;exact⟨A3,N3,c3,hr,fun _=>hf⟩
  have e3:a9=true->E.files.length<=40:=fun ho=>by
   cases b8:M.v.app e with
   |none=>rw[Z,b8]at ho;cases ho
   |some u=>rw[a',b8];exact Vw.uv5 b8
  have b9:=H_ b7;have k3:=H_ e3;clear b7 k2 y0 y1 y2 y3 y4 y5 y6 U g9 a4 Z a' e3 j2 j3 b2 b3 i2 i3 a2 i1 hV;go_wp2;refine w_h w2 fun C=>?_;refine w_v 0 C ?_ (k:=kz11);go_simp;refine w_v 1 C ?_ (k:=kz11);go_simp;refine w_v 2 C ?_ (k:=kz11);go_simp;refine w_v 3 C ?_ (k:=kz11);go_simp;refine w_v 4 C ?_ (k:=kz11);go_simp;refine wpAnyH_ready (rs:=[5,9]) (by kernel_rfl) s_ ?_;refine AllReadyH.cons rfl (fun K hK=>?_) (AllReadyH.cons rfl (fun K hK=>?_) AllReadyH.nil)
  case' refine_1=>
   go_simp;refine(b9.out _ C).mono ?_;rintro e5 w5 ⟨b',J,nu,O,rfl,c9⟩;go_simp;refine hK.out _ _ (C.trans (b'.mono C.size)) ?_;clear C hK K;intro C;go_simp;refine w_v 6 C ?_ (k:=kz11);go_simp;refine w_v 7 C ?_ (k:=kz11);go_simp;refine w_v 8 C ?_ (k:=kz11);go_simp;have g':=H_ C;refine w_r 9 fun K hK=>?_;go_simp;refine hK.out _ _ (C.alloc C.size _) ?_;clear C hK K;intro C;go_simp;refine w_r 10 fun K hK=>?_;go_simp;refine hK.out _ _ (g'.out.alloc g'.out.size _) ?_;clear C hK K;intro C;go_simp;refine w_r 11 fun K hK=>?_;go_simp;refine hK.out _ _ C ?_;clear C hK K;intro C;go_simp;refine w_d ?_;have b1:BoxO _ 121 w5.heap.size [.int .i64 E.log,.slice J nu O,.int .u64 (E.floor:Int),.int .u64 (E.cert:Int),.int .u64 (E.at_:Int),.int .u64 (E.lease:Int)]:=BoxO.new w5 #[.int .i64 E.log,.slice J nu O,.int .u64 (E.floor:Int),.int .u64 (E.cert:Int),.int .u64 (E.at_:Int),.int .u64 (E.lease:Int)] 121;have n5:w2.heap.size<=w5.heap.size:=g'.out.size;have e4:a9=true->lq1 w2.heap.size (w5.alloc (.cells #[.int .i64 E.log,.slice J nu O,.int .u64 (E.floor:Int),.int .u64 (E.cert:Int),.int .u64 (E.at_:Int),.int .u64 (E.lease:Int)] 121)) J nu O E.files:=fun ho=>((c9 ho).base l_).below (b_ _ _);generalize w5.heap.size=gb at *;generalize w5.alloc (.cells #[.int .i64 E.log,.slice J nu O,.int .u64 (E.floor:Int),.int .u64 (E.cert:Int),.int .u64 (E.at_:Int),.int .u64 (E.lease:Int)] 121)=W at *;clear g' b' c9 w5
  case' refine_2=>
   go_simp;refine hK.out _ _ (C.alloc C.size _) ?_;clear C hK K;intro C;go_simp;refine w_r 5 fun K hK=>?_;have k4:BoxO (w2.drew.alloc (.cells #[.int .i64 0,.slice none 0 0,.int .u64 0,.int .u64 0,.int .u64 0,.int .u64 0] 121)) 121 w2.heap.size [.int .i64 0,.slice none 0 0,.int .u64 0,.int .u64 0,.int .u64 0,.int .u64 0]:=BoxO.new w2.drew #[.int .i64 0,.slice none 0 0,.int .u64 0,.int .u64 0,.int .u64 0,.int .u64 0] 121;go_simp;refine(b9.out _ C).mono ?_;rintro e5 w5 ⟨b',J,nu,O,rfl,c9⟩;have H:=k4.below b';go_simp;refine hK.out _ _ (C.trans (b'.mono C.size)) ?_;clear C hK K;intro C;go_simp;refine w_v 6 C ?_ (k:=kz11);go_simp;refine w_v 7 C ?_ (k:=kz11);go_simp;refine w_v 8 C ?_ (k:=kz11);go_simp;have g0:=H.c0;have f0:=H.free 0;have g1:=H.c1;have f1:=H.free 1;have g2:=H.c2;have f2:=H.free 2;have g3:=H.c3;have f3:=H.free 3;have g4:=H.c4;have f4:=H.free 4;have g5:=H.c5;have f5:=H.free 5;refine w_r 10 fun K hK=>?_;go_simp;have b1:=((((((H.store 0 (.int .i64 E.log)).store 1 (.slice J nu O)).store 2 (.int .u64 (E.floor:Int))).store 3 (.int .u64 (E.cert:Int))).store 4 (.int .u64 (E.at_:Int))).store 5 (.int .u64 (E.lease:Int)));have k5:=(((((((Chg.refl [w2.heap.size] w5).setCell (p:=⟨w2.heap.size,0,none⟩) (.int .i64 E.log) (.inl s_)).setCell (p:=⟨w2.heap.size,1,none⟩) (.slice J nu O) (.inl s_)).setCell (p:=⟨w2.heap.size,2,none⟩) (.int .u64 (E.floor:Int)) (.inl s_)).setCell (p:=⟨w2.heap.size,3,none⟩) (.int .u64 (E.cert:Int)) (.inl s_)).setCell (p:=⟨w2.heap.size,4,none⟩) (.int .u64 (E.at_:Int)) (.inl s_)).setCell (p:=⟨w2.heap.size,5,none⟩) (.int .u64 (E.lease:Int)) (.inl s_));refine hK.out _ _ ((((((C.setCell (p:=⟨w2.heap.size,0,none⟩) l_ _).setCell (p:=⟨w2.heap.size,1,none⟩) l_ _).setCell (p:=⟨w2.heap.size,2,none⟩) l_ _).setCell (p:=⟨w2.heap.size,3,none⟩) l_ _).setCell (p:=⟨w2.heap.size,4,none⟩) l_ _).setCell (p:=⟨w2.heap.size,5,none⟩) l_ _) (fun k6=>?_);clear g0 g1 g2 g3 g4 g5 f0 f1 f2 f3 f4 f5;clear hK K C;have C:=k6;clear k6;go_simp;refine w_r 11 fun K hK=>?_;go_simp;refine hK.out _ _ C ?_;clear C hK K;intro C;go_simp;refine w_d ?_;have b1:BoxO _ 121 w2.heap.size [.int .i64 E.log,.slice J nu O,.int .u64 (E.floor:Int),.int .u64 (E.cert:Int),.int .u64 (E.at_:Int),.int .u64 (E.lease:Int)]:=b1;have e4:a9=true->lq1 w2.heap.size ((((((w5.setCell ⟨w2.heap.size,0,none⟩ (.int .i64 E.log)).setCell ⟨w2.heap.size,1,none⟩ (.slice J nu O)).setCell ⟨w2.heap.size,2,none⟩ (.int .u64 (E.floor:Int))).setCell ⟨w2.heap.size,3,none⟩ (.int .u64 (E.cert:Int))).setCell ⟨w2.heap.size,4,none⟩ (.int .u64 (E.at_:Int))).setCell ⟨w2.heap.size,5,none⟩ (.int .u64 (E.lease:Int))) J nu O E.files:=fun ho=>((c9 ho).chg k5 (fun a ha hm=>by have:=(c9 ho).low a ha;simp at hm this;omega)).base s_;obtain⟨gb,i4,n5⟩:∃g,g=w2.heap.size/\w2.heap.size<=g:=⟨_,rfl,y_ _⟩;generalize ((((((w5.setCell ⟨w2.heap.size,0,none⟩ (.int .i64 E.log)).setCell ⟨w2.heap.size,1,none⟩ (.slice J nu O)).setCell ⟨w2.heap.size,2,none⟩ (.int .u64 (E.floor:Int))).setCell ⟨w2.heap.size,3,none⟩ (.int .u64 (E.cert:Int))).setCell ⟨w2.heap.size,4,none⟩ (.int .u64 (E.at_:Int))).setCell ⟨w2.heap.size,5,none⟩ (.int .u64 (E.lease:Int)))=W at *;clear H k4 b' k5 c9 w5;rw[<-i4]at b1 ⊢;clear i4
  all_goals
   have h3:=h2.below C;have e7:=e4;have n6:=h2.man.lt;have f9:=h2.acc.dm.dk;have hrow:=H_ ((((Row.own b5).below C)).arg (B:=w2.heap.size) C.size);have hA:∀a,A=some a->a.block∉X.foot:=fun a ha hm=>by
    obtain⟨A',c',e',_,_,Q⟩:=gz b5;injection e' with e' _ _;have h7:=(Q a (by rw[<-e'];exact ha)).1;have h8:=h1.acc.dm.dk.lt _ hm;omega
   have k7:K<=1099511627776:=by
    have e1:=(Row.own b5).zk;omega
   have k8:¬m=gb:=o_
   have i5:gb∉[m] ++X.foot:=fun hm=>by
    rcases k_.1 hm with h5|h5
    ·exact k8 (a_.1 h5).symm
    ·have:=f9.lt _ h5
     omega
   have r5:=C.size;clear C e4 b9 h2
   cases a9 with
   |false=>
    have hh:R=(S,M,1):=j6.out.trans (if_neg s_);have hl:=H_ (ix1.mk_ hh h3);clear hh b1 h3 KC e7 hrow hA;go_wp2;go_ret;exact hl.out
   |true=>
   have k9:=j6.out.trans (if_pos rfl);have f':=e7 rfl;have o8:=k3.out rfl;have i6:=H_ k9;clear j6 k9 e7 k3;have h4:=(h3.below (ak b0_)).anew;have i7:BoxO W.drew 121 gb [.int .i64 E.log,.slice J nu O,.int .u64 (E.floor:Int),.int .u64 (E.cert:Int),.int .u64 (E.at_:Int),.int .u64 (E.lease:Int)]:=b1;have b7:=h4.append (str M.name) (by rw[ny];unfold maxLen;omega) A K c e.rec_ k7 hrow.out.drew hA;rw[oz]at b7;have b9:=H_ b7;have d0:=h3.man.cell 0;have d1:=h3.man.cell 1;simp only[Gs.cells,gE0,gE1]at d0 d1;have k':=H_ i7;have l1:=H_ i5;have i8:lq1 w2.heap.size W.drew J nu O E.files:=f'.below (ak b0_);have a6:=H_ i8;have j9:Hid (R=if (S.append M.name e.rec_).2≠0 then ((S.append M.name e.rec_).1,M,(S.append M.name e.rec_).2) else if ((S.append M.name e.rec_).1.sync M.name).2≠0 then (((S.append M.name e.rec_).1.sync M.name).1,{ M with count:=M.count+1,v:=E,broken:=true },((S.append M.name e.rec_).1.sync M.name).2) else (((S.append M.name e.rec_).1.sync M.name).1,{ M with count:=M.count+1,v:=E },0)):=i6.out;have n9:=h4.man.lt;have r6:=f'.row.flen;clear b7 b5 hA k7 hrow b1 a7 j5 i7 i5 KC f' i8 i6;generalize S.append M.name e.rec_=PP at *;obtain⟨S1,e1⟩:=PP;simp only at j9;go_wp2
   go_still_tail 9,(by kernel_rfl)
   change wpList _ _ _ _ _ (World.drew W);go_wp2_with fail;refine b9.out.mono ?_;rintro e6 w6 ⟨rfl,X6,Q⟩
   by_cases q1:e1=0
   case neg=>
    have o0:=neq0 q1;have hh:=j9.out;rw[if_pos q1]at hh;have hl:=H_ (ix1.mk_ hh ((h3.below (ak b0_)).trans Q));clear hh;go_wp2;go_ret;exact hl.out
   subst q1;have l2:Hid (R=if (S1.sync M.name).2≠0 then ((S1.sync M.name).1,{ M with count:=M.count+1,v:=E,broken:=true },(S1.sync M.name).2) else ((S1.sync M.name).1,{ M with count:=M.count+1,v:=E },0)):=j9.out.trans (if_neg s_);have a1:=k'.out.chg Q.acc.c l1.out;have g6:Row w6.heap.size w6 J nu 2 (dw E.files):=by
    refine(kz Q.acc.c a6.out.row l_ (fun j hj a ha hm=>?_)).up Q.acc.c.size;have h7:=a6.out.low a ha
    rcases k_.1 hm with h5|h5
    ·have:=a_.1 h5
     omega
    ·have:=f9.lt _ h5
     omega
   have i':Vrow w6 X6 m ⟨J,nu,O⟩ E.files:=by
    refine⟨g6,a6.out.nc,a6.out.cm,by simp only;omega,fun j hj a ha=>?_⟩;have h7:=a6.out.low a ha;have h8:=aj6 a6.out.row hj ha;refine⟨o_,fun hm=>?_⟩
    rcases Q.acc.f _ hm with h9|h9
    ·have:=f9.lt _ h9
     omega
    ·omega
   have j0:∀a,(⟨J,nu,O⟩:Sl).a=some a->w.heap.size<=a.block:=fun a ha=>by
    have h7:=a6.out.low a ha;omega
   have j1:=H_ j0;clear j0;have x0:=a1.cell 0;have x1:=a1.cell 1;have x2:=a1.cell 2;have x3:=a1.cell 3;have x4:=a1.cell 4;have x5:=a1.cell 5;have d2:=Q.man.cell 2;have d3:=Q.man.cell 3;have d4:=Q.man.cell 4;have d5:=Q.man.cell 5;have d6:=Q.man.cell 6;have d7:=Q.man.cell 7;have d8:=Q.man.cell 8;have f2:=Q.man.free 2;have f3:=Q.man.free 3;have f4:=Q.man.free 4;have f5:=Q.man.free 5;have f6:=Q.man.free 6;have f7:=Q.man.free 7;have f8:=Q.man.free 8;simp only[Gs.cells,gE0,gE1]at x0 x1 x2 x3 x4 x5 d2 d3 d4 d5 d6 d7 d8;have l4:GK (((((((w6.setCell ⟨m,8,none⟩ (.int .i64 ((M.count:Int)+1))).setCell ⟨m,2,none⟩ (.int .i64 E.log)).setCell ⟨m,3,none⟩ (.slice J nu O)).setCell ⟨m,4,none⟩ (.int .u64 (E.floor:Int))).setCell ⟨m,5,none⟩ (.int .u64 (E.cert:Int))).setCell ⟨m,6,none⟩ (.int .u64 (E.at_:Int))).setCell ⟨m,7,none⟩ (.int .u64 (E.lease:Int))) m X.d { M with count:=M.count+1,v:=E } ⟨J,nu,O⟩:=(((((((Q.man.store 8 (.int .i64 ((M.count:Int)+1))).store 2 (.int .i64 E.log)).store 3 (.slice J nu O)).store 4 (.int .u64 (E.floor:Int))).store 5 (.int .u64 (E.cert:Int))).store 6 (.int .u64 (E.at_:Int))).store 7 (.int .u64 (E.lease:Int)));have g7:Chg [m] w6 (((((((w6.setCell ⟨m,8,none⟩ (.int .i64 ((M.count:Int)+1))).setCell ⟨m,2,none⟩ (.int .i64 E.log)).setCell ⟨m,3,none⟩ (.slice J nu O)).setCell ⟨m,4,none⟩ (.int .u64 (E.floor:Int))).setCell ⟨m,5,none⟩ (.int .u64 (E.cert:Int))).setCell ⟨m,6,none⟩ (.int .u64 (E.at_:Int))).setCell ⟨m,7,none⟩ (.int .u64 (E.lease:Int))):=((((((((Chg.refl [m] w6).setCell _ (.inl s_)).setCell _ (.inl s_)).setCell _ (.inl s_)).setCell _ (.inl s_)).setCell _ (.inl s_)).setCell _ (.inl s_)).setCell _ (.inl s_));have h7:=H_ (((h3.below (ak b0_)).trans Q).fz4 g7 l4 (i'.turn g7));clear l4 g7 a1 Q b9 h4 h3 k' l1 i' g6 a6;have D0:=h7.out.man.cell 0;have D1:=h7.out.man.cell 1;simp only[Gs.cells,gE0,gE1]at D0 D1;go_wp2;generalize (((((((w6.setCell ⟨m,8,none⟩ (.int .i64 ((M.count:Int)+1))).setCell ⟨m,2,none⟩ (.int .i64 E.log)).setCell ⟨m,3,none⟩ (.slice J nu O)).setCell ⟨m,4,none⟩ (.int .u64 (E.floor:Int))).setCell ⟨m,5,none⟩ (.int .u64 (E.cert:Int))).setCell ⟨m,6,none⟩ (.int .u64 (E.at_:Int))).setCell ⟨m,7,none⟩ (.int .u64 (E.lease:Int)))=V7 at *;clear x0 x1 x2 x3 x4 x5 d2 d3 d4 d5 d6 d7 d8 f2 f3 f4 f5 f6 f7 f8 d0 d1;have h8:=h7.out.below (ak b0_);have j':=h8.sync (str M.name) (by rw[ny];unfold maxLen;omega);rw[oz]at j';have o1:=H_ j';clear j' h8;generalize S1.sync M.name=PP at *;obtain⟨S2,e2⟩:=PP
   go_still_tail 8,(by kernel_rfl)
   change wpList _ _ _ _ _ (World.drew V7);go_wp2_with fail;refine o1.out.mono ?_;rintro e9 w9 ⟨rfl,X9,h9⟩
   by_cases q2:e2=0
   case neg=>
    have o0:=neq0 q2;have hh:R=(S2,{ M with count:=M.count+1,v:=E,broken:=true },e2):=l2.out.trans (if_pos q2);have HH:=H_ hh;clear hh;go_wp2_with fail;refine h9.nj5.mono ?_;rintro s0 s1 ⟨rfl,o3⟩;have hl:=H_ (ix1.mkN (P0:=P) HH.out o3 j1.out);go_wp2;go_ret;exact hl.out
   subst q2;have hl:=H_ (ix1.mkN (P0:=P) (l2.out.trans (if_neg s_)) h9 j1.out);go_wp2;go_ret;exact hl.out
end
section
namespace Gw
open Mn
open Mw (kCur)
end Gw
variable {m:Nat} {X X1:Dw} {w w1 w2:World} {S S1:Sd} {M M1:Gs}
end
section
end
namespace Crc
end Crc
namespace Fr
end Fr
namespace Gw
open Mn
open Mw (kCur jw headB sweep yx1)
theorem lq5 {d:Sd} (C:d.Wf) (M:Gs) (nm:List UInt8):(fin d M nm).1.load<=d.load+64:=by
 have h1:=Sd.dj1 d;have h2:=wk1 C.ax;have h3:=yx1 nm (d.ax).1.list (d.ax).1;unfold fin;split
 ·dsimp only;omega
 ·dsimp only;omega
theorem yz4 {d:Sd} (C:d.Wf) (M:Gs) (nm:List UInt8):(ren d M nm).1.load<=d.load+65:=by
 have h1:=Sd.jy2 d jw kCur;have h2:=lq5 (C.rename jw kCur) M nm;unfold ren;split
 ·dsimp only;omega
 ·omega
theorem hz5 {d:Sd} (C:d.Wf) (M:Gs) (nm:List UInt8):(sd1 d M nm).1.load<=d.load+65:=by
 have h1:=Sd.dj1 d;have h2:=yz4 C.ax M nm;unfold sd1;split
 ·dsimp only;omega
 ·omega
theorem ok4 {d:Sd} (C:d.Wf) (M:Gs) (nm:List UInt8):(hd d M nm).1.load<=d.load+67:=by
 have h1:=Sd.aq1 d jw (headB ((number nm kMan).getD 0));have h2:=hz5 (C.write jw (headB ((number nm kMan).getD 0))) M nm;unfold hd;split
 ·dsimp only;omega
 ·omega
theorem jv5 {d:Sd} (C:d.Wf) (M:Gs) (nm:List UInt8):(tmp d M nm).1.load<=d.load+68:=by
 have h1:=Sd.cx1 d jw;have h2:=ok4 (C.remove jw) M nm;have h3:=ok4 C M nm;unfold tmp;split
 ·split
  ·dsimp only;omega
  ·omega
 ·omega
theorem ej3 {d:Sd} (C:d.Wf) (M:Gs) (nm:List UInt8):(rewrite d M nm).1.load<=d.load+70:=by
 have h1:=Sd.aq1 d nm M.v.whole.rec_;have h2:=jv5 (C.write nm M.v.whole.rec_) M nm;unfold rewrite;split
 ·dsimp only;omega
 ·omega
end Gw
end Go.Proofs.YtkdbagdiplpcfaaGreatDoor
