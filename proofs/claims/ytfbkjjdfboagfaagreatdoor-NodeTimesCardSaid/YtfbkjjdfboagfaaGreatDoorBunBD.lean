/- Some of the texts. No conditions. -/
import Derived.Test.YtfbkjjdfboagfaaGreatDoorBunAX
import Derived.Test.YtfbkjjdfboagfaaGreatDoorBunBB
import Derived.Test.YtfbkjjdfboagfaaGreatDoorBunAZ

set_option linter.unusedSimpArgs false
set_option linter.unusedVariables false
set_option maxRecDepth 100000
set_option maxHeartbeats 16000000
namespace Go.Proofs.YtfbkjjdfboagfaaGreatDoor
open Go.Proofs.Tryz Go Go.RowKit Go.Lib Go.Shelf
section
variable {w w1 w2:World} {X X1 X2:Dw} {S S1 S2:Sd} {Y Y1 Y2:Yw} {V V1 V2:Sv} {nb now grace:Nat} {ni:Int}
theorem qq4 {e:TypeId} {g B n:Nat} {xs:List Value} {A:Option Addr} {l:List It} (E:BoxO w e g xs) (O:xs.length<=4) (H:Row B w A n 5 (itc l)):∀j,j < (itc l).length->∀a,A=some a->a.block∉[g]:=by
 intro j hj a I z;have z:=c_.1 z;obtain⟨Q,o,_,C⟩:=H.cell 4 (by rw[iw]at hj ⊢;omega);rw[I]at o;injection o with o;subst o;have J:a.add 4=⟨g,a.off+4,none⟩:=by rw[<-z];simp[Addr.add]
 rw[J,E.cell,b9_ o_]at C
 cases C
theorem nv5 {g B n:Nat} {i:Int} {p:Option Addr} {b c:Int} {A:Option Addr} {fs:List (Int×Int)} (E:BoxO w 59 g [i,.pointer p,.int .u64 b,.int .u64 c]) (H:Row B w A n 2 (bz fs)):∀j,j < (bz fs).length->∀a,A=some a->a.block∉[g]:=by
 intro j hj a I C;have C:=c_.1 C
 cases fs with
 |nil=>simp[bz]at hj
 |cons f fs=>
  obtain⟨Q,z,_,o⟩:=H.cell 1 (by simp[bz]);rw[I]at z;injection z with z;subst z;have J:a.add 1=⟨g,a.off+1,none⟩:=by rw[<-C];simp[Addr.add]
  rw[J,E.cell]at o;have O:(bz (f::fs))[1]'(by simp[bz])=.int .i64 f.2:=rfl;rw[O]at o
  rcases ad_ a.off 3 with h|h
  ·rcases (show a.off=0\/a.off=1\/a.off=2 by omega) with h|h|h<;>rw[h]at o<;>simp at o
  ·rw[b9_ (by simp;omega)]at o
   cases o
theorem uw.small {F:List Nat} {A:Option Addr} {n c g:Nat} {e:TypeId} {xs:List Value} {l:List It} (h:uw F w fun w=>Its 0 w A n c l) (H:BoxO w e g xs) (O:xs.length<=4) (k:Chg [g] w w1):uw F w1 fun w=>Its 0 w A n c l:=fun w2 z=>by
 have C:=g_ k.size z.size;have I:=H.lt;have J:(back w w2 [g]).heap[g]?=w.heap[g]?:=zx4 (c_.2 rfl) I (L_ I C);have h1:=h (back w w2 [g]) ⟨z.os.trans k.os,z.tape.trans k.tape,z.output.trans k.output,by rw[fz1];exact C,fun r o hF=>by
  by_cases E:r∈[g]
  ·rw[c_.1 E];exact J
  ·rw[cx2 E,z.block r (L_ o k.size) hF,k.block r o E]⟩
 refine⟨?_,h1.nc,h1.cm,h1.low⟩;have o:=h1.row;rw[fz1]at o;exact nz (F:=[g]) (w:=back w w2 [g]) (w':=w2) ⟨rfl,rfl,rfl,by rw[fz1];exact B_ _,fun r _ E=>(cx2 E).symm⟩ o (by rw[fz1];exact B_ _) (qq4 (show BoxO (back w w2 [g]) e g xs from J.trans H) O o)
theorem NdAt.zk5 (h:NdAt w X S Y V nb ni now grace) (J:V.tabs=[]) (H:NG<=nb) (z:Nat):NdAt (w.setCell (nb,2) (.int .u64 z)) X S Y V nb ni z grace/\Chg [nb] w (w.setCell (nb,2) (.int .u64 z)):=by
 have c:Chg [nb] w (w.setCell (nb,2) (.int .u64 z)):=(Chg.refl _ _).setCell _ (.inl s_);have o:=h.at_;have I:=h.box;have E:∀g∈Y.foot,g∉[nb]:=fun g h1 h2=>h.out (by rw[<-c_.1 h2];exact k_ _ h1);refine⟨⟨⟨o.dm.chg c (fun g C=>by rw[c_.1 C];exact⟨fun O=>h.out (x_ _ O),H⟩),o.box.chg c (E _ (Yw.aj.2 (.inl rfl))),o.man.chg c (E _ (Yw.aj.2 (.inr (.inl rfl)))),⟨(nz c o.row.row l_ (nv5 I o.row.row)).up c.size,o.row.nc,o.row.cm,o.row.nb,o.row.away⟩,o.pout,o.log.chg c (E _ (Yw.aj.2 (.inr (.inr (.inl rfl))))),o.mem.chg c (fun g C=>E g (Yw.aj.2 ?_)),o.its,?_,o.st.small I s_ c,o.apart,o.ng⟩,I.store 2 (.int .u64 z),h.out⟩,c⟩
 ·rcases h_.1 C with rfl|C
  ·exact .inr (.inr (.inr (.inl rfl)))
  ·exact .inr (.inr (.inr (.inr C)))
 ·have:=o.tabs.now
  rw[J]at this ⊢;exact fun w2 _=>this.none w2
def St.tick (S:Sd) (V:Sv) (n1 grace:Nat):Sd×Sv×Nat:=
 if (St.uj V).collect n1 grace=0\/(rx1 V.st ((St.uj V).collect n1 grace)).length=V.st.length then (S,V,0) else St.uv1 S V ((St.uj V).collect n1 grace)
def oy4 (X:Dw) (Y:Yw) (w:World) (R:Sd×Sv×Nat) (nb:Nat) (ni:Int) (n1 grace:Nat) (e:Ending) (w':World):Prop:=
 e=.returned (.int .i64 R.2.2)/\∃X1 Y1,X1.d=X.d/\Y1.s=Y.s/\NdAt w' X1 R.1 Y1 R.2.1 nb ni n1 grace/\Chg (nb::XY X Y) w w'/\∀g∈XY X1 Y1,g∈XY X Y\/(w:Nat)<=g
theorem kz34 {P S a oi v} (h:Hv P S a oi v:=by intro w o;(obtain⟨q1,q2,q3⟩:=b7.out _ o);go_simp;try (with_reducible rfl)):Hv P S a oi v:=h
theorem dj3 (h:NdAt w X S Y V nb ni now grace) (ht:V.tabs=[]) (e4:NG<=nb) (h7:now<=1099511627776) (b8:V.st.length<=2000) (e5:V.M.v.files.length<=40) (E:Nat) (e7:E=min (now+1) 1099511627776)
  (a6:(St.uj V).collect E grace≠0->(rx1 V.st ((St.uj V).collect E grace)).length≠V.st.length->∀w' Y' X',SvAt w' X' S Y' V->Calls prog 18 #[.pointer (some Y'.s),.int .u64 ((((St.uj V).collect E grace):Nat):Int)] w' (gz1 X' Y' w' (St.uv1 S V ((St.uj V).collect E grace)))):
  Calls prog 6 #[nb] w (oy4 X Y w (St.tick S V E grace) nb ni E grace):=by
 obtain⟨R,hR⟩:=n_ (St.tick S V E grace);rw[<-hR];unfold St.tick at hR;obtain⟨h1,c1⟩:=h.zk5 ht e4 E;obtain⟨W,hW⟩:=n_ (w.setCell (nb,2) (.int .u64 E));have f0:=h.box.c2;have f1:=h.box.free 2;have h8:min ((now:Int)+1) 1099511627776=(E:Int):=o_
 have i1:IntKind.u64.wrap ((now:Int)+1)=(now:Int)+1:=be_ _ o_;rw[<-hW]at h1 c1;obtain⟨v,hv⟩:=n_ ((St.uj V).collect E grace);rw[<-hv]at hR a6;have b9:=fun W' (hb:Below W W W')=>aw1 (h1.below hb).at_ o_;have a7:=fun W'=>jv3 (St.uj V) E grace W';rw[<-hv]at a7;have b':∀W',Below W W W'->W'.cell? (nb,1)=some (.pointer (some Y.s))/\W'.cell? (nb,2)=some (.int .u64 E)/\W'.cell? (nb,3)=some (.int .u64 grace):=fun W' hb=>by
  have q:=(h1.below hb).box;exact⟨q.cell 1,q.cell 2,q.cell 3⟩
 have c9:=H_ b9;have d0:=H_ a7;have b7:=H_ b';have H1:=H_ h1;have d1:=H_ c1;have d2:=H_ a6;have HR:=H_ hR;have a8:=H_ b8;have HW:=H_ hW;clear b9 a7 b' h1 c1 a6 hR hv e7 h b8 e5 hW ht;go_enter func6,ntmps6;go_wp2_with fail;rw[<-HW.out];clear f0 f1;have d3:Below W W W.drew:=ax b0_;refine wp_region_held_drew (S:=fun w'=>Below W W w') rfl d3 (fun o=>?_);refine w_v 0 o ?_ (k:=kz34);go_simp;refine w_v 1 o ?_ (k:=kz34);go_simp;refine w_v 2 o ?_ (k:=kz34);go_simp;refine w_v 3 o ?_ (k:=kz34);go_simp;refine w_v 5 o ?_ (k:=kz34);go_simp;refine w_v 6 o ?_ (k:=kz34);go_simp;refine w_v 7 o ?_ (k:=kz34);go_simp;refine w_v 8 o ?_ (k:=kz34);go_simp;refine w_v 9 o ?_ (k:=kz34);go_simp;refine w_v 10 o ?_ (k:=kz34);go_simp;refine w_v 11 o ?_ (k:=kz34);go_simp;refine w_v 12 o ?_ (k:=kz34);go_simp;refine w_r 4 fun K hK=>?_;go_simp
 with_reducible refine(c9.out _ o).mono ?_
 rintro e w2 ⟨rfl,f4⟩;go_simp;refine hK.out _ _ (az o f4) ?_;clear o hK K;intro o;go_simp;refine w_r 13 fun K hK=>?_;go_simp
 with_reducible refine(d0.out _).mono ?_
 rintro e w3 ⟨rfl,f5⟩;go_simp;refine hK.out _ _ (az o f5) ?_;clear o hK K;intro o;go_simp;refine w_v 14 o ?_ (k:=kz34);go_simp;refine w_d ?_;have h3:=H1.below o;have k1:=h3.box.c1;have f7:=nk2 h3 (by have:=a8.out;omega);have a5:=fy1 h3.at_ (by have:=a8.out;omega);have a9:=H_ a5;have H3:=H_ h3;have f8:=H_ o;clear f7 a5 h3 o d3 c9 d0 b7;go_wp2_with fail
 refine m_ a9 ?_
 rintro e w4 ⟨A4,c4,rfl,a',a2⟩;have a4:=az f8.out a2;have h4:=H3.below a2;have J:∀w',Below w4 w4 w'->R=(S,V,0)->oy4 X Y w R nb ni E grace (.returned (.int .i64 0)) w':=fun w' hb hr=>by
  rw[hr];exact⟨rfl,X,Y,rfl,rfl,h4.below hb,(d1.mono fun g H=>.inl (by rw[c_.1 H];exact p_)).trans (Chg.of_below (az a4 hb) []) (fun g H=>by cases H),fun g H=>.inl H⟩
 have C:=H_ J
 by_cases I:v=0
 ·have e1:((v:Int)==0)=true:=by simp[I]
  have HZ:=H_ (C.out w4 b0_ (by rw[HR.out,if_pos (.inl I)]));clear J C h4 a4 a2 a' I a9;go_wp2;go_ret;exact HZ
 ·have e1:((v:Int)==0)=false:=by simp;omega
  have f9:=a8.out;have d6:=h4.at_.alen;have d7:=tz2 A4 Y.A.n c4 V.st v w4 o_ (Row.own a');have b0:=H_ d7;have b1:=H_ d6;have H4:=H_ (d_ h4 a4);clear d7 d6 f9 J h4 a4 a2 a' a9;go_wp2_with fail
  refine m_ b0 ?_
  rintro e w5 ⟨A5,k5,rfl,O,d8,Q⟩;have h5:=H4.1.below Q;have q1:=h5.box.c1;have U:=az H4.2 Q
  by_cases hl:k5=Y.A.n
  ·have e2:((k5:Int)==(Y.A.n:Int))=true:=by simp[hl]
   have HZ:=H_ (C.out w5 Q (by rw[HR.out,if_pos (.inr (by rw[<-O,hl,b1.out]))]));clear hl d8 O Q h5 b0 C H4 U;go_wp2;go_ret;exact HZ
  ·have e2:((k5:Int)==(Y.A.n:Int))=false:=by simp;omega
   have hR:=HR.out;rw[if_neg (fun h=>h.elim I (fun h=>hl (by rw[O,h,b1.out])))]at hR;have b2:=d2.out I (fun h=>hl (by rw[O,h,b1.out])) w5 Y X h5.at_;rw[<-hR]at b2;have d9:=H_ b2;have H5:=H_ (d_ h5 U);clear hl d8 O Q h5 U b2 hR b0 C H4 d2 I;go_wp2_with fail
   refine m_ d9 ?_
   rintro e w6 ⟨rfl,X6,Y6,e6,b3,h6,c6,f6⟩;have HZ:Hid (oy4 X Y w R nb ni E grace (.returned (.int .i64 R.2.2)) w6):=H_ (by
    obtain⟨h5,U⟩:=H5.out;have d':Chg (nb::XY X Y) w w5:=(d1.mono fun g H=>.inl (by rw[c_.1 H];exact p_)).trans (Chg.of_below U []) (fun g H=>by cases H);have e0:=h5.box.chg c6 h5.out;rw[<-b3]at e0;exact⟨rfl,X6,Y6,e6,b3,⟨h6,e0,fun hm=>(f6 _ hm).elim h5.out (fun h=>by have:=h5.box.lt;omega)⟩,d'.trans c6 (fun g H=>.inl (f_ _ H)),fun g H=>(f6 g H).imp (fun z=>z) (g_ d'.size)⟩)
   clear h6 c6 f6 e6 b3 d9 H5;go_wp2;go_ret;exact HZ
end
end Go.Proofs.YtfbkjjdfboagfaaGreatDoor
