/- Some of the texts. No conditions. -/
import Derived.Test.YtkdbagdiplpcfaaGreatDoorBunAY
import Derived.Test.YtkdbagdiplpcfaaGreatDoorBunAX
import Derived.Test.YtkdbagdiplpcfaaGreatDoorBunAW

set_option linter.unusedSimpArgs false
set_option linter.unusedVariables false
set_option maxRecDepth 100000
set_option maxHeartbeats 16000000
namespace Go.Proofs.YtkdbagdiplpcfaaGreatDoor
open Go.Proofs.Tryz Go Go.RowKit Go.Lib Go.Shelf
section
variable {w w1 w2:World} {X X1 X2:Dw} {S S1 S2:Sd} {Y Y1 Y2:Yw} {V V1 V2:Sv}
theorem aw1.c (h:aw1 X Y w w1 S V):Chg (XY X Y) w w1:=let ⟨_,_,_,_,_,c,_⟩:=h;c
def Aw.yc:List Value:=#[.int .i64 3,.int .i64 2,.int .u64 7,.int .u64 9,.int .i64 5].toList
theorem Aw.yfit:Aw.y.fit:=by unfold It.fit Aw.y;decide
theorem Aw.row {W:World} {g:Nat} (h:BoxO W 49 g Aw.yc):Row W.heap.size W (some ⟨g,0,none⟩) 1 5 (itc [Aw.y]):=az1 (x:=Aw.y) h
theorem yy4 (h:SvAt w X Aw.S0 Y Aw.V0) (g c:Nat) (H:BoxO w 49 g Aw.yc) (I:g∉XY X Y):
  Calls prog 13 #[.pointer (some ⟨Y.s,0,none⟩),.slice (some ⟨g,0,none⟩) 1 c] w fun e w'=>e=.returned (.int .i64 0)/\aw1 X Y w w' Aw.r1.1 Aw.r1.2.1:=by
 obtain⟨E,J,a3,Z,O⟩:=Aw.f0;refine(oz2 h (some ⟨g,0,none⟩) 1 c [Aw.y] o_ (Aw.row H) (fun a C=>by injection C with C;subst C;exact I) (fun x Q=>by rw[a_.1 Q];exact Aw.yfit) (by rw[E];exact Stt.nil) (by rw[E];simp) o_ o_ (by rw[J];simp) O).mono fun e w' ⟨q1,U⟩=>⟨by rw[q1,Aw.f1];rfl,U⟩
theorem zx4 (h:SvAt w X Aw.r1.1 Y Aw.r1.2.1):
  Calls prog 14 #[.pointer (some ⟨Y.s,0,none⟩)] w fun e w'=>e=.returned (.int .i64 0)/\aw1 X Y w w' Aw.r2.1 Aw.r2.2.1:=by
 obtain⟨C,I,a3,J,O,Q,U,Z⟩:=Aw.f2;refine(ww1 h a3 (fun x E=>by rw[C]at E;rw[a_.1 E];exact Aw.yfit) (by rw[C];simp) (by rw[I];simp) J O Q U Z).mono fun e w' ⟨q1,H⟩=>?_;rw[Aw.xv5]at q1 H;exact⟨by rw[q1,Aw.f3];rfl,H⟩
theorem cv6 (h:SvAt w X S Y V) (hs:V.st=[Aw.y]):
  Calls prog 15 #[.pointer (some ⟨Y.s,0,none⟩),.int .i64 3,.int .u64 7] w fun e w'=>e=.returned (.tuple #[.agg #[.int .i64 3,.int .i64 2,.int .u64 7,.int .u64 9,.int .i64 5],.bool true])/\Below w.heap.size w w':=by
 refine(zw2 h (by rw[hs];simp) 3 7).mono fun e w' ⟨q1,C⟩=>⟨?_,C⟩;rw[q1,hs];rfl
theorem ix5 (h:SvAt w X S Y V) (hs:V.tabs.length=1):
  Calls prog 10 #[.pointer (some ⟨Y.s,0,none⟩)] w fun e w'=>(∃a b d f,e=.returned (.agg #[.int .i64 a,.int .i64 b,.int .i64 1,.int .i64 d,.bool f]))/\Below w.heap.size w w':=by
 refine(jj1 h o_).mono fun e w' ⟨q1,C⟩=>⟨⟨(V.st.length:Int),(V.mem.length:Int),(V.ct:Int),V.only,?_⟩,C⟩;rw[q1,hs];rfl
theorem kz19 {P S a oi v} (h:Hv P S a oi v:=by intro w C;(have k1:=C.1.cell 1;have y0:=C.2.cell 0;have y1:=C.2.cell 1;have y2:=C.2.cell 2;have y3:=C.2.cell 3;have y4:=C.2.cell 4;simp only[Aw.yc,gE0,gE1]at k1 y0 y1 y2 y3 y4);go_simp;try (with_reducible rfl)):Hv P S a oi v:=h
theorem eq4 (he:Env w):Calls prog 6 #[] w fun e w'=>e=.returned (.bool true)/\Below w.heap.size w w':=by
 have a7:=ux3 1048576 o_ he Aw.S0 Aw.V0 Aw.born;have a8:=H_ a7;clear a7 he;go_enter func6,ntmps6;go_wp2_with fail
 refine m_ a8 ?_
 rintro e w1 ⟨gw,X,Y,rfl,hw⟩;have E:=b_ w1 (.cells #[.int .i64 3,.int .i64 2,.int .u64 7,.int .u64 9,.int .i64 5] 49);have a1:BoxO (w1.alloc (.cells #[.int .i64 3,.int .i64 2,.int .u64 7,.int .u64 9,.int .i64 5] 49)) 49 w1.heap.size Aw.yc:=BoxO.new w1 #[.int .i64 3,.int .i64 2,.int .u64 7,.int .u64 9,.int .i64 5] 49;have O:=hw.below E;have Q:=hw.at_.lt;have a':=hw.box.lt;generalize e4:w1.alloc (.cells #[.int .i64 3,.int .i64 2,.int .u64 7,.int .u64 9,.int .i64 5] 49)=W2 at *;have b0:=H_ O;have b2:=H_ a1;have e5:=H_ Q;have e6:=H_ (c_ E a');have H:Hid (gw∉XY X Y/\w1.heap.size∉XY X Y):=H_ ⟨hw.out,fun hm=>by have:=Q _ hm;omega⟩;have b5:Hid (∀Z g c,Below W2.heap.size W2 Z->BoxO Z 49 g Aw.yc->W2.heap.size<=g->Calls prog 13 #[.pointer (some ⟨Y.s,0,none⟩),.slice (some ⟨g,0,none⟩) 1 c] Z fun e w'=>e=.returned (.int .i64 0)/\aw1 X Y Z w' Aw.r1.1 Aw.r1.2.1):=H_ fun Z g c hb hg hl=>yy4 (O.at_.below hb) g c hg (fun hm=>by have:=Q g hm;have:=E.size;omega);have b6:Hid (BoxO W2.drew 39 gw [.pointer (some ⟨X.d,0,none⟩),.pointer (some ⟨Y.s,0,none⟩),.slice none 0 0,.int .u64 0,.int .u64 0,.int .u64 0,.int .u64 0]/\BoxO W2.drew 49 w1.heap.size Aw.yc):=H_ ⟨O.box,a1⟩;clear hw O a1 Q E a' a8;go_wp2_with fail;clear e4;refine wp_region_held_drew (S:=fun w'=>BoxO w' 39 gw [.pointer (some ⟨X.d,0,none⟩),.pointer (some ⟨Y.s,0,none⟩),.slice none 0 0,.int .u64 0,.int .u64 0,.int .u64 0,.int .u64 0]/\BoxO w' 49 w1.heap.size Aw.yc) rfl b6.out (fun C=>?_);refine w_v 0 C ?_ (k:=kz19);go_simp;refine w_v 1 C ?_ (k:=kz19);go_simp;refine w_v 2 C ?_ (k:=kz19);go_simp;refine w_v 3 C ?_ (k:=kz19);go_simp;refine w_v 4 C ?_ (k:=kz19);go_simp;refine w_r 5 fun K hK=>?_
 skip
 go_simp;refine hK.out _ _ ⟨C.1.alloc _,C.2.alloc _⟩ ?_;clear C hK K;intro C;go_simp;refine w_r 6 fun K hK=>?_;go_simp
 with_reducible refine(b5.out _ _ _ (by first|exact ak (b_ _ _)|exact(ak b0_).alloc l_ _) (by first|exact BoxO.new _ #[.int .i64 3,.int .i64 2,.int .u64 7,.int .u64 9,.int .i64 5] 49|exact BoxO.drew (BoxO.new _ #[.int .i64 3,.int .i64 2,.int .u64 7,.int .u64 9,.int .i64 5] 49)) l_).mono ?_
 rintro e w3 ⟨rfl,U⟩;go_simp;refine hK.out _ _ ⟨C.1.chg U.c H.out.1,C.2.chg U.c H.out.2⟩ ?_;clear C hK K;intro C;go_simp;refine w_v 7 C ?_ (k:=kz19);go_simp;refine w_d ?_;obtain⟨X4,Y4,h4,b8⟩:=(b0.out.below (by first|exact ak (b_ _ _)|exact(ak b0_).alloc l_ _)).upd U;have b9:=C.2;have b':=h4.at_.lt;have a0:w1.heap.size∉XY X4 Y4:=fun hm=>by
  rcases b8 _ hm with q|q
  ·exact H.out.2 q
  ·have q2:W2.heap.size<=w1.heap.size:=j_ (by first|exact Nat.le_of_lt s_|simp) q
   have:=b2.out.lt;omega
 have c9:=zx4 h4.at_;have c':=H_ c9;have H4:=H_ h4;have a2:=H_ (c_ b9 a0);have b1:=h4.box.c1;clear c9 h4 b8 b9 a0 b' U C b5 b6 b0 b2 e5 e6 H;go_wp2_with fail
 refine m_ c' ?_
 rintro e w5 ⟨rfl,a4⟩;obtain⟨X6,Y6,h6,_⟩:=H4.out.upd a4;have d0:=a2.out.1.chg a4.c a2.out.2;have d1:=cv6 h6.at_ Aw.f4.2;have d2:=H_ d1;have H6:=H_ h6;have d3:=H_ d0;have b1:=h6.box.c1;clear d1 h6 d0 a4 c' H4 a2;go_wp2_with fail
 refine m_ d2 ?_
 rintro e w7 ⟨rfl,a5⟩;have h7:=H6.out.below a5;have d4:=d3.out.below a5;have E:=b_ w7 (.cells #[.int .i64 3,.int .i64 2,.int .u64 7,.int .u64 9,.int .i64 5] 49);have I:=BoxO.new w7 #[.int .i64 3,.int .i64 2,.int .u64 7,.int .u64 9,.int .i64 5] 49;have h8:=h7.below E;have J:=d4.below E;generalize e9:w7.alloc (.cells #[.int .i64 3,.int .i64 2,.int .u64 7,.int .u64 9,.int .i64 5] 49)=W8 at *;have d5:=ix5 h8.at_ Aw.f4.1;have y0:=J.cell 0;have y1:=J.cell 1;have y2:=J.cell 2;have y3:=J.cell 3;have y4:=J.cell 4;have z0:=I.cell 0;have z1:=I.cell 1;have z2:=I.cell 2;have z3:=I.cell 3;have z4:=I.cell 4;have b1:=h8.box.cell 1;simp only[Aw.yc,gE0,gE1]at y0 y1 y2 y3 y4 z0 z1 z2 z3 z4 b1;have heq:=ry3 Aw.y Aw.y;have g':∀(a b d:Int) (f:Bool) Z,(Instr.field 42 (.agg #[.int .i64 a,.int .i64 b,.int .i64 1,.int .i64 d,.bool f]) 2).run prog Z=.ok (.int .i64 1) Z:=fun _ _ _ _ _=>rfl;have d6:=H_ d5;have H8:=H_ h8;clear d5 h8 h7 d4 J I E d2 H6 d3 a5;simp only[Aw.y]at heq;go_wp2_with fail
 refine m_ d6 ?_
 rintro e w9 ⟨⟨a,b,d,f,rfl⟩,d7⟩;have hz:=az H8.out.bel d7;clear d6 H8 d7 y0 y1 y2 y3 y4 z0 z1 z2 z3 z4 b1 e9;go_wp2;go_ret;exact⟨rfl,hz⟩
end
section
attribute [local go_sem] Oper.semAt_some
variable {w w1 w2:World} {X X1 X2:Dw} {S S1 S2:Sd} {Y Y1 Y2:Yw} {V V1 V2:Sv} {nb now grace:Nat} {ni:Int}
end
section
attribute [local go_sem] Oper.semAt_some
variable {w w1 w2:World} {X X1 X2:Dw} {S S1 S2:Sd} {Y Y1 Y2:Yw} {V V1 V2:Sv} {nb now grace:Nat} {ni:Int}
end
section
namespace Nd
structure NS (q:Int) (S:Sd) (V:Sv) (c d:Nat):Prop where
 calm:Calm S
 quota:S.quota=q
 only:V.only=false
 nm:V.nm=St.ry
 log:∃t,cont S St.ry=some t/\t.length<=c
 man:∃t,cont S (Mw.man 1)=some t/\t.length<=d
 small:Small S [St.ry,Mw.man 1,Mw.kCur] 70000
 sz:V.sz<=c
 ct:V.ct<=c
 mem:V.mem.length<=c
 tabs:V.tabs=[]
 st:Stt V.st
 name:V.M.name=Mw.man 1
 br:V.M.broken=false
 ok:V.M.v.ok=true
 files:V.M.v.files=[]
 count:V.M.count<=d
def v0:Sv:=⟨{ St.first with name:=Mw.man 1,count:=1 },St.ry,0,0,[],[],[],false⟩
theorem born (q:Int) (h1:500000<=q) (h2:q<=1099511627776):∃S,St.create (Sd.new q)=(S,some v0,0)/\NS q S v0 0 100:=by
 have Q:=Calm.new q h2;obtain⟨d6,q1,U,Z,E⟩:=ak3 (K:=[]) (B:=2100) Q ⟨fun s x C=>(by rw[Calm.cq2]at C;cases C),fun s x C=>(by rw[Calm.cq2]at C;cases C)⟩ s_ (fun s x C=>(by rw[Calm.cq2]at C;cases C)) l_ (by simp[Sd.new];omega);have J:St.ry≠Mw.jw:=by decide
 have n2:St.ry≠Mw.kCur:=by decide
 have n3:St.ry≠Mw.man 1:=by decide+kernel
 have O:Mw.man 1≠Mw.jw:=by decide+kernel
 have n5:Mw.man 1≠Mw.kCur:=by decide+kernel
 have H:St.first.v.whole.rec_.length<=100:=by decide+kernel
 have I:(Mw.headB 1).length<=70000:=by decide+kernel
 refine⟨d6,q1,U,by rw[Z];simp[Sd.new];omega,rfl,rfl,⟨[],?_,w_ _⟩,⟨St.first.v.whole.rec_,?_,H⟩,⟨fun s x C=>?_,fun s x C=>?_⟩,w_ _,w_ _,w_ _,rfl,Stt.nil,rfl,rfl,by decide+kernel,rfl,by decide⟩
 ·rw[E]
  unfold upd;rw[if_neg J,if_neg n2,if_neg J,if_neg n3,if_pos rfl]
 ·rw[E]
  unfold upd;rw[if_neg O,if_neg n5,if_neg O,if_pos rfl]
 all_goals
  rw[E,Calm.cq2]at C;unfold upd at C;split at C
  ·cases C
  ·split at C
   ·injection C with C
    subst_vars
    first|simp|exact I
   ·split at C
    ·injection C with C
     subst_vars
     first|simp|omega
    ·split at C
     ·injection C with C
      subst_vars;simp
     ·cases C
variable {q:Int} {S:Sd} {V:Sv} {c d:Nat}
end Nd
set_option linter.unusedSimpArgs false
variable {w w1 w2:World} {X X1 X2:Dw} {S S1 S2:Sd} {Y Y1 Y2:Yw} {V V1 V2:Sv} {nb now grace:Nat} {ni:Int}
end
section
end
end Go.Proofs.YtkdbagdiplpcfaaGreatDoor
