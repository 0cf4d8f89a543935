/- Some of the texts. No conditions. -/
import Derived.Test.YtgicpkieomacgaaGreatDoorBunAR
import Derived.Test.YtgicpkieomacgaaGreatDoorBunAP

set_option linter.unusedSimpArgs false
set_option linter.unusedVariables false
set_option maxRecDepth 100000
set_option maxHeartbeats 16000000
namespace Go.Proofs.YtgicpkieomacgaaGreatDoor
open Go.Proofs.Tryz Go Go.RowKit Go.Lib Go.Shelf
structure Ev where
 e:Ed
 D:Option Addr
 m:Nat
 d:Nat
 A:Option Addr
 n:Nat
 c:Nat
structure Vc where
 v:Vw
 A:Option Addr
 n:Nat
 c:Nat
variable {B B' n:Nat} {w w':World} {A:Option Addr} {xs:List Ev} {ys:List Vc}
variable {b0 base:Nat} {gv ov gv' ov':Value} {gs:List Ev} {vs:List Vc}
theorem aj6 {B n size:Nat} {xs:List Value} (h:Row B w A n size xs) {j:Nat} (hj:j < xs.length) {a:Addr} (C:A=some a):a.block < B:=by
 obtain⟨E,e,b,_⟩:=h.cell j hj;rw[C]at e;injection e with e;subst e;exact b
section
variable {P:Sl} {m:Nat} {X X1:Dw} {w w1 w2:World} {S S1:Sd} {M M1:Gs}
theorem Gst.fz4 {C:Sl} {m:Nat} {X X1:Dw} {w w1 w2:World} {S:Sd} {M M1:Gs} (h:Gst P m X w S M w1 X1) (c:Chg [m] w1 w2) (E:GK w2 m X.d M1 C) (H:Vrow w2 X1 m C M1.v.files):Gst C m X w S M1 w2 X1:=
 ⟨h.acc.other c (fun g I=>by rw[a_.1 I];exact⟨by simp,h.lt,h.out,h.ng⟩),E,H,h.lt,h.out,h.ng⟩
theorem kz10 {P S a oi v} (h:Hv P S a oi v:=by intro w C;(obtain⟨z2,z3,z4,z5,z6,z7,y0,y1,y2,y3,y4,y5,y6⟩:=KC.out w C);go_simp;try (with_reducible rfl)):Hv P S a oi v:=h
theorem vz4 (e:Ed) (D:Option Addr) (dm dd:Nat) (A2:Option Addr) (n2 c2:Nat) (m7:dm<=1000000) (m8:n2<=1000000) (j3:Row w.heap.size w D dm 1 (uw e.drop)) (j4:Row w.heap.size w A2 n2 2 (dw e.add)) (p6:P.n<=40)
  (p7:M.count<=1000000000) (p8:M.name.length<=1000) (h0:Gst P m X w S M w X):
  Calls prog 159 #[.pointer (some ⟨m,0,none⟩),e.val D dm dd A2 n2 c2] w (ix1 P m X w (Gw.save S M e)):=by
 obtain⟨R,hR⟩:=n_ (Gw.save S M e);rw[<-hR];unfold Ed.val;have a8:Below w.heap.size w (w.alloc (.cells #[.slice D dm dd,.slice A2 n2 c2,.int .i64 e.log,.int .u64 (e.floor:Int),.int .u64 (e.cert:Int),.int .u64 (e.at_:Int),.int .u64 (e.lease:Int)] 112)):=b_ _ _;have h1:=h0.below a8;have a4:=BoxO.new w #[.slice D dm dd,.slice A2 n2 c2,.int .i64 e.log,.int .u64 (e.floor:Int),.int .u64 (e.cert:Int),.int .u64 (e.at_:Int),.int .u64 (e.lease:Int)] 112;have b3:=(j3.below a8).up a8.size;have b5:=(j4.below a8).up a8.size;have p9:=h0.man.lt;have j6:=a8;generalize hV:w.alloc (.cells #[.slice D dm dd,.slice A2 n2 c2,.int .i64 e.log,.int .u64 (e.floor:Int),.int .u64 (e.cert:Int),.int .u64 (e.at_:Int),.int .u64 (e.lease:Int)] 112)=V at *;have g':=h1.man.cell 12;have y0:=a4.cell 0;have y1:=a4.cell 1;have y2:=a4.cell 2;have y3:=a4.cell 3;have y4:=a4.cell 4;have y5:=a4.cell 5;have y6:=a4.cell 6;simp only[Gs.cells,gE0,gE1]at g' y0 y1 y2 y3 y4 y5 y6
 cases a6:M.broken with
 |true=>
  have hh:R=(S,M,14):=by rw[hR,Gw.save,if_pos a6]
  have hl:=H_ (ix1.mk_ hh h1);rw[a6]at g';clear hR hh a6;go_enter func159,ntmps159;go_wp2;go_ret;exact hl.out
 |false=>
 rw[a6]at g'
 cases I:e.may with
 |false=>
  have hh:R=(S,M,1):=by rw[hR,Gw.save,if_neg (by simp[a6]),if_pos I]
  have Z:=iw5 none 0 0 e D dm dd A2 n2 c2 V I m7 m8 b3 b5;unfold Ed.val at Z;have HH:=H_ hh;clear hR hh a6 I;go_enter func159,ntmps159;go_wp2_with fail;refine Z.mono ?_;rintro e1 w2 ⟨rfl,a5⟩;have hl:=H_ (ix1.mk_ HH.out (h1.below a5));go_wp2;go_ret;exact hl.out
 |true=>
  have m':=ij3 I;have n0:=j3.ilen;have n1:=j4.flen;have q3:=Ed.wy2 I;have Z:=pw3 none 0 0 [] e D dm dd A2 n2 c2 V I b3 b5 o_ o_ (by unfold maxLen;omega) Row.nil_;have i1:([]:List UInt8)++e.rec_=e.rec_:=rfl;rw[i1]at Z;unfold Ed.val at Z;obtain⟨a',a0⟩:∃b,b=(M.v.app e).isSome:=⟨_,rfl⟩;obtain⟨E,b0⟩:∃u,u=(M.v.app e).getD Vw.none_:=⟨_,rfl⟩;have HT:R=if a'=true then Gw.put S M e E else (S,M,1):=by
   rw[hR,Gw.save,if_neg (by simp[a6]),if_neg (by simp[I])];rw[a0,b0]
   cases M.v.app e with
   |none=>rfl
   |some u=>rfl
  have j7:=H_ HT;have n3:dm<=40:=o_
  have n4:n2<=40:=o_
  clear hR HT a6 i1 I m' n0 n1;go_enter func159,ntmps159;go_wp2_with fail;refine Z.mono ?_;rintro e1 w2 ⟨A,K,c,rfl,b6,q4,q5,a5⟩;have h2:=h1.below a5;have o8:w.heap.size<=w2.heap.size:=h2.acc.c.size;have i2:=a4.below a5;have i3:=(b3.below a5).up a5.size;have i4:=(b5.below a5).up a5.size;have k3:∀w':World,Below w2.heap.size w2 w'->w'.cell? ⟨m,2,none⟩=some (.int .i64 M.v.log)/\w'.cell? ⟨m,3,none⟩=some (.slice P.a P.n P.c)/\w'.cell? ⟨m,4,none⟩=some (.int .u64 (M.v.floor:Int))/\w'.cell? ⟨m,5,none⟩=some (.int .u64 (M.v.cert:Int))/\w'.cell? ⟨m,6,none⟩=some (.int .u64 (M.v.at_:Int))/\w'.cell? ⟨m,7,none⟩=some (.int .u64 (M.v.lease:Int))/\
    w'.cell? ⟨w.heap.size,0,none⟩=some (.slice D dm dd)/\w'.cell? ⟨w.heap.size,1,none⟩=some (.slice A2 n2 c2)/\w'.cell? ⟨w.heap.size,2,none⟩=some (.int .i64 e.log)/\w'.cell? ⟨w.heap.size,3,none⟩=some (.int .u64 (e.floor:Int))/\w'.cell? ⟨w.heap.size,4,none⟩=some (.int .u64 (e.cert:Int))/\w'.cell? ⟨w.heap.size,5,none⟩=some (.int .u64 (e.at_:Int))/\w'.cell? ⟨w.heap.size,6,none⟩=some (.int .u64 (e.lease:Int)):=fun w' hb=>by
   have b7:=(h2.below hb).man;have b1:=i2.below hb;exact⟨b7.cell 2,b7.cell 3,b7.cell 4,b7.cell 5,b7.cell 6,b7.cell 7,b1.cell 0,b1.cell 1,b1.cell 2,b1.cell 3,b1.cell 4,b1.cell 5,b1.cell 6⟩
  have KC:=H_ k3;have b8:∀W,Below w2.heap.size w2 W->Calls prog 173 #[.agg #[.int .i64 M.v.log,.slice P.a P.n P.c,.int .u64 (M.v.floor:Int),.int .u64 (M.v.cert:Int),.int .u64 (M.v.at_:Int),.int .u64 (M.v.lease:Int)],.agg #[.slice D dm dd,.slice A2 n2 c2,.int .i64 e.log,.int .u64 (e.floor:Int),.int .u64 (e.cert:Int),.int .u64 (e.at_:Int),.int .u64 (e.lease:Int)]] W fun r W'=>Below W.heap.size W W'/\∃J O Q,r=.returned (.tuple #[.agg #[.int .i64 E.log,.slice J O Q,.int .u64 (E.floor:Int),.int .u64 (E.cert:Int),.int .u64 (E.at_:Int),.int .u64 (E.lease:Int)],.bool a'])/\(a'=true->lq1 W.heap.size W' J O Q E.files):=fun W hW=>by
   refine(rv4 M.v P.a P.n P.c e D dm dd A2 n2 c2 W o_ o_ o_ ((h2.row.row.below hW).up hW.size) ((i3.below hW).up hW.size) ((i4.below hW).up hW.size)).mono ?_;rintro r W' ⟨hb,hr⟩;refine⟨hb,?_⟩
   cases b9:M.v.app e with
   |none=>
    rw[b9]at hr a0 b0;subst a0 b0;exact⟨none,0,0,hr,fun h=>by cases h⟩
   |some u=>
    rw[b9]at hr a0 b0;subst a0 b0;obtain⟨A3,N3,c3,hr,hf⟩:=hr;exact⟨A3,N3,c3,hr,fun _=>hf⟩
  have e4:a'=true->E.files.length<=40:=fun ho=>by
   cases b9:M.v.app e with
   |none=>rw[a0,b9]at ho;cases ho
   |some u=>rw[b0,b9];exact Vw.uv5 b9
  have b':=H_ b8;have k4:=H_ e4;clear b8 k3 y0 y1 y2 y3 y4 y5 y6 Z g' a5 a0 b0 e4 j3 j4 b3 b5 i3 i4 a4 i2 hV;go_wp2;refine w_h w2 fun C=>?_;refine w_v 0 C ?_ (k:=kz10);go_simp;refine w_v 1 C ?_ (k:=kz10);go_simp;refine w_v 2 C ?_ (k:=kz10);go_simp;refine w_v 3 C ?_ (k:=kz10);go_simp;refine w_v 4 C ?_ (k:=kz10);go_simp;refine wpAnyH_ready (rs:=[5,9]) (by kernel_rfl) s_ ?_;refine AllReadyH.cons rfl (fun K hK=>?_) (AllReadyH.cons rfl (fun K hK=>?_) AllReadyH.nil)
  case' refine_1=>
   go_simp;refine(b'.out _ C).mono ?_;rintro e5 w5 ⟨c9,J,O,Q,rfl,d9⟩;go_simp;refine hK.out _ _ (C.trans (c9.mono C.size)) ?_;clear C hK K;intro C;go_simp;refine w_v 6 C ?_ (k:=kz10);go_simp;refine w_v 7 C ?_ (k:=kz10);go_simp;refine w_v 8 C ?_ (k:=kz10);go_simp;have h':=H_ C;refine w_r 9 fun K hK=>?_;go_simp;refine hK.out _ _ (C.alloc C.size _) ?_;clear C hK K;intro C;go_simp;refine w_r 10 fun K hK=>?_;go_simp;refine hK.out _ _ (h'.out.alloc h'.out.size _) ?_;clear C hK K;intro C;go_simp;refine w_r 11 fun K hK=>?_;go_simp;refine hK.out _ _ C ?_;clear C hK K;intro C;go_simp;refine w_d ?_;have b2:BoxO _ 96 w5.heap.size [.int .i64 E.log,.slice J O Q,.int .u64 (E.floor:Int),.int .u64 (E.cert:Int),.int .u64 (E.at_:Int),.int .u64 (E.lease:Int)]:=BoxO.new w5 #[.int .i64 E.log,.slice J O Q,.int .u64 (E.floor:Int),.int .u64 (E.cert:Int),.int .u64 (E.at_:Int),.int .u64 (E.lease:Int)] 96;have n6:w2.heap.size<=w5.heap.size:=h'.out.size;have e7:a'=true->lq1 w2.heap.size (w5.alloc (.cells #[.int .i64 E.log,.slice J O Q,.int .u64 (E.floor:Int),.int .u64 (E.cert:Int),.int .u64 (E.at_:Int),.int .u64 (E.lease:Int)] 96)) J O Q E.files:=fun ho=>((d9 ho).base l_).below (b_ _ _);generalize w5.heap.size=gb at *;generalize w5.alloc (.cells #[.int .i64 E.log,.slice J O Q,.int .u64 (E.floor:Int),.int .u64 (E.cert:Int),.int .u64 (E.at_:Int),.int .u64 (E.lease:Int)] 96)=W at *;clear h' c9 d9 w5
  case' refine_2=>
   go_simp;refine hK.out _ _ (C.alloc C.size _) ?_;clear C hK K;intro C;go_simp;refine w_r 5 fun K hK=>?_;have k5:BoxO (w2.drew.alloc (.cells #[.int .i64 0,.slice none 0 0,.int .u64 0,.int .u64 0,.int .u64 0,.int .u64 0] 96)) 96 w2.heap.size [.int .i64 0,.slice none 0 0,.int .u64 0,.int .u64 0,.int .u64 0,.int .u64 0]:=BoxO.new w2.drew #[.int .i64 0,.slice none 0 0,.int .u64 0,.int .u64 0,.int .u64 0,.int .u64 0] 96;go_simp;refine(b'.out _ C).mono ?_;rintro e5 w5 ⟨c9,J,O,Q,rfl,d9⟩;have H:=k5.below c9;go_simp;refine hK.out _ _ (C.trans (c9.mono C.size)) ?_;clear C hK K;intro C;go_simp;refine w_v 6 C ?_ (k:=kz10);go_simp;refine w_v 7 C ?_ (k:=kz10);go_simp;refine w_v 8 C ?_ (k:=kz10);go_simp;have g0:=H.c0;have f0:=H.free 0;have g1:=H.c1;have f1:=H.free 1;have g2:=H.c2;have f2:=H.free 2;have g3:=H.c3;have f3:=H.free 3;have g4:=H.c4;have f4:=H.free 4;have g5:=H.c5;have f5:=H.free 5;refine w_r 10 fun K hK=>?_;go_simp;have b2:=((((((H.store 0 (.int .i64 E.log)).store 1 (.slice J O Q)).store 2 (.int .u64 (E.floor:Int))).store 3 (.int .u64 (E.cert:Int))).store 4 (.int .u64 (E.at_:Int))).store 5 (.int .u64 (E.lease:Int)));have k6:=(((((((Chg.refl [w2.heap.size] w5).setCell (p:=⟨w2.heap.size,0,none⟩) (.int .i64 E.log) (.inl s_)).setCell (p:=⟨w2.heap.size,1,none⟩) (.slice J O Q) (.inl s_)).setCell (p:=⟨w2.heap.size,2,none⟩) (.int .u64 (E.floor:Int)) (.inl s_)).setCell (p:=⟨w2.heap.size,3,none⟩) (.int .u64 (E.cert:Int)) (.inl s_)).setCell (p:=⟨w2.heap.size,4,none⟩) (.int .u64 (E.at_:Int)) (.inl s_)).setCell (p:=⟨w2.heap.size,5,none⟩) (.int .u64 (E.lease:Int)) (.inl s_));refine hK.out _ _ ((((((C.setCell (p:=⟨w2.heap.size,0,none⟩) l_ _).setCell (p:=⟨w2.heap.size,1,none⟩) l_ _).setCell (p:=⟨w2.heap.size,2,none⟩) l_ _).setCell (p:=⟨w2.heap.size,3,none⟩) l_ _).setCell (p:=⟨w2.heap.size,4,none⟩) l_ _).setCell (p:=⟨w2.heap.size,5,none⟩) l_ _) (fun k7=>?_);clear g0 g1 g2 g3 g4 g5 f0 f1 f2 f3 f4 f5;clear hK K C;have C:=k7;clear k7;go_simp;refine w_r 11 fun K hK=>?_;go_simp;refine hK.out _ _ C ?_;clear C hK K;intro C;go_simp;refine w_d ?_;have b2:BoxO _ 96 w2.heap.size [.int .i64 E.log,.slice J O Q,.int .u64 (E.floor:Int),.int .u64 (E.cert:Int),.int .u64 (E.at_:Int),.int .u64 (E.lease:Int)]:=b2;have e7:a'=true->lq1 w2.heap.size ((((((w5.setCell ⟨w2.heap.size,0,none⟩ (.int .i64 E.log)).setCell ⟨w2.heap.size,1,none⟩ (.slice J O Q)).setCell ⟨w2.heap.size,2,none⟩ (.int .u64 (E.floor:Int))).setCell ⟨w2.heap.size,3,none⟩ (.int .u64 (E.cert:Int))).setCell ⟨w2.heap.size,4,none⟩ (.int .u64 (E.at_:Int))).setCell ⟨w2.heap.size,5,none⟩ (.int .u64 (E.lease:Int))) J O Q E.files:=fun ho=>((d9 ho).chg k6 (fun a ha hm=>by have:=(d9 ho).low a ha;simp at hm this;omega)).base s_;obtain⟨gb,i5,n6⟩:∃g,g=w2.heap.size/\w2.heap.size<=g:=⟨_,rfl,y_ _⟩;generalize ((((((w5.setCell ⟨w2.heap.size,0,none⟩ (.int .i64 E.log)).setCell ⟨w2.heap.size,1,none⟩ (.slice J O Q)).setCell ⟨w2.heap.size,2,none⟩ (.int .u64 (E.floor:Int))).setCell ⟨w2.heap.size,3,none⟩ (.int .u64 (E.cert:Int))).setCell ⟨w2.heap.size,4,none⟩ (.int .u64 (E.at_:Int))).setCell ⟨w2.heap.size,5,none⟩ (.int .u64 (E.lease:Int)))=W at *;clear H k5 c9 k6 d9 w5;rw[<-i5]at b2 ⊢;clear i5
  all_goals
   have h3:=h2.below C;have f9:=e7;have n7:=h2.man.lt;have f':=h2.acc.dm.dk;have hrow:=H_ ((((Row.own b6).below C)).arg (B:=w2.heap.size) C.size);have hA:∀a,A=some a->a.block∉X.foot:=fun a ha hm=>by
    obtain⟨A',c',e',_,_,U⟩:=gz b6;injection e' with e' _ _;have h7:=(U a (by rw[<-e'];exact ha)).1;have h8:=h1.acc.dm.dk.lt _ hm;omega
   have k8:K<=1099511627776:=by
    have e1:=(Row.own b6).zk;omega
   have k9:¬m=gb:=o_
   have i6:gb∉[m] ++X.foot:=fun hm=>by
    rcases k_.1 hm with h5|h5
    ·exact k9 (a_.1 h5).symm
    ·have:=f'.lt _ h5
     omega
   have r6:=C.size;clear C e7 b' h2
   cases a' with
   |false=>
    have hh:R=(S,M,1):=j7.out.trans (if_neg s_);have hl:=H_ (ix1.mk_ hh h3);clear hh b2 h3 KC f9 hrow hA;go_wp2;go_ret;exact hl.out
   |true=>
   have k':=j7.out.trans (if_pos rfl);have g6:=f9 rfl;have o9:=k4.out rfl;have i7:=H_ k';clear j7 k' f9 k4;have h4:=(h3.below (ak b0_)).anew;have i8:BoxO W.drew 96 gb [.int .i64 E.log,.slice J O Q,.int .u64 (E.floor:Int),.int .u64 (E.cert:Int),.int .u64 (E.at_:Int),.int .u64 (E.lease:Int)]:=b2;have b8:=h4.append (str M.name) (by rw[ny];unfold maxLen;omega) A K c e.rec_ k8 hrow.out.drew hA;rw[oz]at b8;have b':=H_ b8;have d0:=h3.man.cell 0;have d1:=h3.man.cell 1;simp only[Gs.cells,gE0,gE1]at d0 d1;have l1:=H_ i8;have l2:=H_ i6;have i9:lq1 w2.heap.size W.drew J O Q E.files:=g6.below (ak b0_);have a7:=H_ i9;have j':Hid (R=if (S.append M.name e.rec_).2≠0 then ((S.append M.name e.rec_).1,M,(S.append M.name e.rec_).2) else if ((S.append M.name e.rec_).1.sync M.name).2≠0 then (((S.append M.name e.rec_).1.sync M.name).1,{ M with count:=M.count+1,v:=E,broken:=true },((S.append M.name e.rec_).1.sync M.name).2) else (((S.append M.name e.rec_).1.sync M.name).1,{ M with count:=M.count+1,v:=E },0)):=i7.out;have n':=h4.man.lt;have r7:=g6.row.flen;clear b8 b6 hA k8 hrow b2 a8 j6 i8 i6 KC g6 i9 i7;generalize S.append M.name e.rec_=PP at *;obtain⟨S1,e1⟩:=PP;simp only at j';go_wp2
   go_still_tail 9,(by kernel_rfl)
   change wpList _ _ _ _ _ (World.drew W);go_wp2_with fail;refine b'.out.mono ?_;rintro e6 w6 ⟨rfl,X6,U⟩
   by_cases q1:e1=0
   case neg=>
    have o1:=neq0 q1;have hh:=j'.out;rw[if_pos q1]at hh;have hl:=H_ (ix1.mk_ hh ((h3.below (ak b0_)).trans U));clear hh;go_wp2;go_ret;exact hl.out
   subst q1;have l3:Hid (R=if (S1.sync M.name).2≠0 then ((S1.sync M.name).1,{ M with count:=M.count+1,v:=E,broken:=true },(S1.sync M.name).2) else ((S1.sync M.name).1,{ M with count:=M.count+1,v:=E },0)):=j'.out.trans (if_neg s_);have a2:=l1.out.chg U.acc.c l2.out;have g7:Row w6.heap.size w6 J O 2 (dw E.files):=by
    refine(kz U.acc.c a7.out.row l_ (fun j hj a ha hm=>?_)).up U.acc.c.size;have h7:=a7.out.low a ha
    rcases k_.1 hm with h5|h5
    ·have:=a_.1 h5
     omega
    ·have:=f'.lt _ h5
     omega
   have j0:Vrow w6 X6 m ⟨J,O,Q⟩ E.files:=by
    refine⟨g7,a7.out.nc,a7.out.cm,by simp only;omega,fun j hj a ha=>?_⟩;have h7:=a7.out.low a ha;have h8:=aj6 a7.out.row hj ha;refine⟨o_,fun hm=>?_⟩
    rcases U.acc.f _ hm with h9|h9
    ·have:=f'.lt _ h9
     omega
    ·omega
   have j1:∀a,(⟨J,O,Q⟩:Sl).a=some a->w.heap.size<=a.block:=fun a ha=>by
    have h7:=a7.out.low a ha;omega
   have j2:=H_ j1;clear j1;have x0:=a2.cell 0;have x1:=a2.cell 1;have x2:=a2.cell 2;have x3:=a2.cell 3;have x4:=a2.cell 4;have x5:=a2.cell 5;have d2:=U.man.cell 2;have d3:=U.man.cell 3;have d4:=U.man.cell 4;have d5:=U.man.cell 5;have d6:=U.man.cell 6;have d7:=U.man.cell 7;have d8:=U.man.cell 8;have f2:=U.man.free 2;have f3:=U.man.free 3;have f4:=U.man.free 4;have f5:=U.man.free 5;have f6:=U.man.free 6;have f7:=U.man.free 7;have f8:=U.man.free 8;simp only[Gs.cells,gE0,gE1]at x0 x1 x2 x3 x4 x5 d2 d3 d4 d5 d6 d7 d8;have l5:GK (((((((w6.setCell ⟨m,8,none⟩ (.int .i64 ((M.count:Int)+1))).setCell ⟨m,2,none⟩ (.int .i64 E.log)).setCell ⟨m,3,none⟩ (.slice J O Q)).setCell ⟨m,4,none⟩ (.int .u64 (E.floor:Int))).setCell ⟨m,5,none⟩ (.int .u64 (E.cert:Int))).setCell ⟨m,6,none⟩ (.int .u64 (E.at_:Int))).setCell ⟨m,7,none⟩ (.int .u64 (E.lease:Int))) m X.d { M with count:=M.count+1,v:=E } ⟨J,O,Q⟩:=(((((((U.man.store 8 (.int .i64 ((M.count:Int)+1))).store 2 (.int .i64 E.log)).store 3 (.slice J O Q)).store 4 (.int .u64 (E.floor:Int))).store 5 (.int .u64 (E.cert:Int))).store 6 (.int .u64 (E.at_:Int))).store 7 (.int .u64 (E.lease:Int)));have g8:Chg [m] w6 (((((((w6.setCell ⟨m,8,none⟩ (.int .i64 ((M.count:Int)+1))).setCell ⟨m,2,none⟩ (.int .i64 E.log)).setCell ⟨m,3,none⟩ (.slice J O Q)).setCell ⟨m,4,none⟩ (.int .u64 (E.floor:Int))).setCell ⟨m,5,none⟩ (.int .u64 (E.cert:Int))).setCell ⟨m,6,none⟩ (.int .u64 (E.at_:Int))).setCell ⟨m,7,none⟩ (.int .u64 (E.lease:Int))):=((((((((Chg.refl [m] w6).setCell _ (.inl s_)).setCell _ (.inl s_)).setCell _ (.inl s_)).setCell _ (.inl s_)).setCell _ (.inl s_)).setCell _ (.inl s_)).setCell _ (.inl s_));have h7:=H_ (((h3.below (ak b0_)).trans U).fz4 g8 l5 (j0.turn g8));clear l5 g8 a2 U b' h4 h3 l1 l2 j0 g7 a7;have D0:=h7.out.man.cell 0;have D1:=h7.out.man.cell 1;simp only[Gs.cells,gE0,gE1]at D0 D1;go_wp2;generalize (((((((w6.setCell ⟨m,8,none⟩ (.int .i64 ((M.count:Int)+1))).setCell ⟨m,2,none⟩ (.int .i64 E.log)).setCell ⟨m,3,none⟩ (.slice J O Q)).setCell ⟨m,4,none⟩ (.int .u64 (E.floor:Int))).setCell ⟨m,5,none⟩ (.int .u64 (E.cert:Int))).setCell ⟨m,6,none⟩ (.int .u64 (E.at_:Int))).setCell ⟨m,7,none⟩ (.int .u64 (E.lease:Int)))=V7 at *;clear x0 x1 x2 x3 x4 x5 d2 d3 d4 d5 d6 d7 d8 f2 f3 f4 f5 f6 f7 f8 d0 d1;have h8:=h7.out.below (ak b0_);have k0:=h8.sync (str M.name) (by rw[ny];unfold maxLen;omega);rw[oz]at k0;have o2:=H_ k0;clear k0 h8;generalize S1.sync M.name=PP at *;obtain⟨S2,e2⟩:=PP
   go_still_tail 8,(by kernel_rfl)
   change wpList _ _ _ _ _ (World.drew V7);go_wp2_with fail;refine o2.out.mono ?_;rintro e9 w9 ⟨rfl,X9,h9⟩
   by_cases q2:e2=0
   case neg=>
    have o1:=neq0 q2;have hh:R=(S2,{ M with count:=M.count+1,v:=E,broken:=true },e2):=l3.out.trans (if_pos q2);have HH:=H_ hh;clear hh;go_wp2_with fail;refine h9.nj5.mono ?_;rintro s1 s2 ⟨rfl,o4⟩;have hl:=H_ (ix1.mkN (P0:=P) HH.out o4 j2.out);go_wp2;go_ret;exact hl.out
   subst q2;have hl:=H_ (ix1.mkN (P0:=P) (l3.out.trans (if_neg s_)) h9 j2.out);go_wp2;go_ret;exact hl.out
end
section
namespace Gw
open Mn
open Mw (kCur)
end Gw
variable {m:Nat} {X X1:Dw} {w w1 w2:World} {S S1:Sd} {M M1:Gs}
end
section
end
namespace Crc
end Crc
namespace Fr
end Fr
namespace Gw
open Mn
open Mw (kCur jw headB sweep yx1)
theorem lq5 {d:Sd} (C:d.Wf) (M:Gs) (nm:List UInt8):(fin d M nm).1.load<=d.load+64:=by
 have h1:=Sd.dj1 d;have h2:=wk1 C.ax;have h3:=yx1 nm (d.ax).1.list (d.ax).1;unfold fin;split
 ·dsimp only;omega
 ·dsimp only;omega
theorem yz4 {d:Sd} (C:d.Wf) (M:Gs) (nm:List UInt8):(ren d M nm).1.load<=d.load+65:=by
 have h1:=Sd.jy2 d jw kCur;have h2:=lq5 (C.rename jw kCur) M nm;unfold ren;split
 ·dsimp only;omega
 ·omega
theorem hz5 {d:Sd} (C:d.Wf) (M:Gs) (nm:List UInt8):(sd1 d M nm).1.load<=d.load+65:=by
 have h1:=Sd.dj1 d;have h2:=yz4 C.ax M nm;unfold sd1;split
 ·dsimp only;omega
 ·omega
theorem ok4 {d:Sd} (C:d.Wf) (M:Gs) (nm:List UInt8):(hd d M nm).1.load<=d.load+67:=by
 have h1:=Sd.aq1 d jw (headB ((number nm kMan).getD 0));have h2:=hz5 (C.write jw (headB ((number nm kMan).getD 0))) M nm;unfold hd;split
 ·dsimp only;omega
 ·omega
theorem jv5 {d:Sd} (C:d.Wf) (M:Gs) (nm:List UInt8):(tmp d M nm).1.load<=d.load+68:=by
 have h1:=Sd.cx1 d jw;have h2:=ok4 (C.remove jw) M nm;have h3:=ok4 C M nm;unfold tmp;split
 ·split
  ·dsimp only;omega
  ·omega
 ·omega
theorem ej3 {d:Sd} (C:d.Wf) (M:Gs) (nm:List UInt8):(rewrite d M nm).1.load<=d.load+70:=by
 have h1:=Sd.aq1 d nm M.v.whole.rec_;have h2:=jv5 (C.write nm M.v.whole.rec_) M nm;unfold rewrite;split
 ·dsimp only;omega
 ·omega
end Gw
end Go.Proofs.YtgicpkieomacgaaGreatDoor
