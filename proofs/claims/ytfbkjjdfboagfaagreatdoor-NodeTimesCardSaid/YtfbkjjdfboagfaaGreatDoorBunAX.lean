/- Some of the texts. No conditions. -/
import Derived.Test.YtfbkjjdfboagfaaGreatDoorBunAS

set_option linter.unusedSimpArgs false
set_option linter.unusedVariables false
set_option maxRecDepth 100000
set_option maxHeartbeats 16000000
namespace Go.Proofs.YtfbkjjdfboagfaaGreatDoor
open Go.Proofs.Tryz Go Go.RowKit Go.Lib Go.Shelf
theorem fv3 {W:World} {b J n c m d:Nat} {A B:Option Addr} {xs O:List Value} (h:W.ownsRow b 34 1 (.slice A n c) n xs) (k:W.ownsRow J 33 5 (.slice B m d) m O):∀g,(Value.slice B m d).ownBlock=some g->(Value.slice A n c).ownBlock≠some g:=by
 intro g o z
 cases A with
 |none=>cases z
 |some a=>
  cases B with
  |none=>cases o
  |some b=>
   obtain⟨g1,cur,Q,_,C,_⟩:=jj1 h;obtain⟨g2,I,U,_,E,_⟩:=jj1 k;subst Q U;injection o with o;injection z with z;subst o;have H:g1=g2:=z;subst H;exact kw2 C E
theorem TbAt.below {w w':World} {f:Nat} {rs:List (List It)} (h:TbAt w f rs) (o:Below w w w'):TbAt w' f rs:=by
 obtain⟨P,n,c,z,E,C,h1,h2,H⟩:=h;exact⟨P,n,c,z,E,C.below o,h1,h2,(H.below o).up o.size⟩
def ROwn (b:Nat) (W:World) (vs:List Value) (ls:List (List It)):Prop:=ls.length=vs.length/\∀i (h:i < ls.length),∃A k c,vs[i]?=some (.slice A k c)/\k=ls[i].length/\k<=c/\c<=maxLen/\W.ownsRow b 33 5 (.slice A k c) k (itc ls[i])
theorem ROwn.below {b:Nat} {W o:World} {vs:List Value} {ls:List (List It)} (h:ROwn b W vs ls) (z:Below W W o):ROwn b o vs ls:=
 ⟨h.1,fun i hi=>let ⟨A,k,c,h1,h2,h3,h4,h5⟩:=h.2 i hi;⟨A,k,c,h1,h2,h3,h4,own_below h5 z⟩⟩
theorem ROwn.more {b b' n c:Nat} {z E:World} {A B:Option Addr} {k d:Nat} {xs vs:List Value} {ls:List (List It)} {l:List It} (h:ROwn b z vs ls) (O:z.ownsRow b' 34 1 (.slice A n c) n xs) (C:z.grownBy E (Value.slice A n c).ownBlock)
  (hk:k=l.length) (H:k<=d) (hd:d<=maxLen) (Q:z.ownsRow b 33 5 (.slice B k d) k (itc l)):ROwn b E (vs++[.slice B k d]) (ls++[l]):=by
 have U:Chg (Value.slice A n c).ownBlock.toList z E:=Chg.qy C (fun b hb=>by rw[hb];simp);refine⟨by simp[h.1],fun i hi=>?_⟩;have hl:=h.1
 rcases ad_ i ls.length with o|o
 ·obtain⟨A',k',c',h1,h2,h3,h4,h5⟩:=h.2 i o
  refine⟨A',k',c',by rw[K_ o_];exact h1,by rw[aL_ o];exact h2,h3,h4,?_⟩;rw[aL_ o];exact jv h5 U (fun g C I=>fv3 O h5 g C (by simpa using I))
 ·have J:i=ls.length:=by simp at hi;omega
  subst J;refine⟨B,k,d,by rw[hl,af_ l_];simp,by simpa using hk,H,hd,?_⟩;have e:(ls++[l])[ls.length]'hi=l:=by simp
  rw[e];exact jv Q U (fun g C I=>fv3 O Q g C (by simpa using I))
theorem ROwn.rows {b n c:Nat} {W:World} {A:Option Addr} {vs:List Value} {ls:List (List It)} (h:ROwn b W vs ls) (o:W.ownsRow b 34 1 (.slice A n c) n vs):nj1 W W A n ls:=by
 have z:=h.1;have h2:=o.1;exact⟨vs,Row.own o,o_,fun i hi=>let ⟨B,k,d,h1,h2,h3,h4,h5⟩:=h.2 i hi;⟨B,k,d,h1,h3,h4,Row.own h5⟩⟩
def jj5 (w:World) (R:List (List It)) (e:Ending) (w':World):Prop:=∃A' n' c' vs,e=.returned (.slice A' n' c')/\n'=R.length/\w'.ownsRow w 34 1 (.slice A' n' c') n' vs/\ROwn w w' vs R/\Below w w w'
theorem zj4 (f:Nat) (rs:List (List It)) (w:World) (h:TbAt w f rs) (hn:rs.length<=1000000) (H:rs.flatten.length<=1000000):
  Calls prog 99 #[f] w fun e w'=>∃A' k c',e=.returned (.slice A' k c')/\k=rs.flatten.length/\w'.ownsRow w 33 5 (.slice A' k c') k (itc rs.flatten)/\k<=c'/\c'<=maxLen/\Below w w w':=by
 obtain⟨P,n,c,I,o,z,J,O,C⟩:=h;have Q:rs.length=n:=by obtain⟨_,_,h,_⟩:=C;exact h
 have U:=H_ (sv1 P n c rs w o_ H C);have b0:=z.c0;clear C z o;go_enter func99,ntmps99;go_wp2_with fail;refine U.mono ?_;rintro e w1 ⟨A',c',rfl,E,h1,h2,h3⟩;generalize hL:rs.flatten.length=L at *;have HO:=H_ E;clear E;go_wp2;go_ret;exact⟨A',L,c',rfl,hL.symm,HO,h1,h2,h3⟩
theorem sk4 (A:Option Addr) (n c:Nat) (q:List Tq) (w:World) (hr:Row w w A n 3 (hcells q)) (ht:∀p∈q,TbAt w p.2 p.1.2) (hn:n<=100000) (Q:∀p∈q,p.1.2.length<=1000000/\p.1.2.flatten.length<=1000000):
  Calls prog 43 #[.slice A n c] w (jj5 w (q.map fun p=>p.1.2.flatten)):=by
 obtain⟨i0,d6,d7,d8,d9⟩:=info_parts vk3;have f1:q.length=n:=by have:=hr.len;rw[xq]at this;omega
 have HR:=H_ (d_ hr (d_ ht Q));clear hr ht Q;go_enter func43,ntmps43;go_wp2
 go_loopw [3,8] (fun o i wr=>∃(k:Nat) (A2:Option Addr) (c2:Nat) (vs:List Value),k<=n/\o=.slice A2 k c2/\i=.int .i64 k/\Hid (wr.ownsRow w 34 1 (.slice A2 k c2) k vs/\ROwn w wr vs ((q.take k).map fun p=>p.1.2.flatten))/\Below w w wr) (fun _ i _=>n - (intOf i).toNat)
 case atStart=>exact⟨0,none,0,[],A_ _,rfl,rfl,H_ ⟨G_ _ _ _ _,rfl,fun i h=>absurd h s_⟩,Below.refl _ _⟩
 case round=>
  obtain⟨k,A2,c2,vs,hk,rfl,rfl,HQ,z⟩:=hrel
  by_cases f2:k < n
  ·have a2:k < q.length:=o_
   have d':(k:Int) < (n:Int):=o_
   have C:=fun j (hj:j < 3)=>kv1 (fun p:Tq=>[Value.int .i64 p.1.1.1,.int .i64 p.1.1.2,.pointer (some p.2)]) 3 (fun _=>rfl) q k j a2 hj;obtain⟨a,rfl,e0,b2⟩:=fx1 HR.1 (C 0 o_);have a4:∀j v,0 < j->j < 3->[Value.int .i64 q[k].1.1.1,.int .i64 q[k].1.1.2,.pointer (some ⟨q[k].2,0,none⟩)][j]?=some v->w.cell? ⟨(a.add (k *3)).block,(a.add (k *3)).off+j,none⟩=some v:=fun j v h0 hj hv=>by
    obtain⟨a',a5,_,cc⟩:=fx1 HR.1 ((C j hj).trans hv);injection a5 with a5;subst a5;rw[<-uq2 a (k *3) h0];exact cc
   have hm:q[k]∈q:=w_ a2;have b3:q.take (k+1)=q.take k++[q[k]]:=by rw[v_ a2]
   have b5:=HR.2.1 q[k] hm;have a6:=HR.2.2 q[k] hm;generalize q[k]=p at *;have E:(a.add (k *3)).block < (w:Nat):=by rw[add_block];exact e0
   have c0:=(z.cell (p:=a.add (k *3)) E).trans b2;have c1:=(z.cell (p:=⟨(a.add (k *3)).block,(a.add (k *3)).off+1,none⟩) E).trans (a4 1 _ o_ o_ rfl);have e2:=(z.cell (p:=⟨(a.add (k *3)).block,(a.add (k *3)).off+2,none⟩) E).trans (a4 2 _ o_ o_ rfl);have a7:=z.alloc z.size (.cells #[p.1.1.1,p.1.1.2,p.2] 178);have a8:=b_ wr (.cells #[p.1.1.1,p.1.1.2,p.2] 178);have H:=zj4 p.2 p.1.2 _ (b5.below a7) a6.1 a6.2;have HC:=H_ H;have HO:=H_ (d_ (own_below HQ.1 a8) (d_ (HQ.2.below a8) a7));have HT:=H_ b3;clear H a8 a7 b5 a6 C a4 b2 b3 HQ hm;go_wp2_with fail;refine HC.mono ?_;rintro e w2 ⟨B,U,d,rfl,b7,b8,h1,h2,a9⟩;have I:=b_ w2 (.cells #[.slice B U d] 34);have b9:=az (az HO.2.2 a9) I;have b':=own_below (own_below HO.1 a9) I;have c9:=(HO.2.1.below a9).below I;have a0:=own_below (own_base b8 HO.2.2.size) I;have J:Row (w2.alloc (.cells #[.slice B U d] 34)).heap.size (w2.alloc (.cells #[.slice B U d] 34)) (some ⟨w2,0,none⟩) 1 1 [.slice B U d]:=(Row.new w2 #[.slice B U d] 34 (n:=1) (size:=1) rfl).up s_;have HX:=H_ (d_ b7 (d_ h1 (d_ h2 a0)));have d1:=H_ J;have O:=H_ (d_ b' c9);have HB:=H_ b9;clear J I b9 b' c9 b8 a0 HO HC h1 h2 b7 c0 c1 e2;go_wp2_with (at_builtin;refine iq ?_);refine gz (iy rfl (.tmp 12) (.tmp 16) _ rfl (w:Nat) 34 i0 _ 1 24 underlying108 d6 d7 d8 d9 rfl o_ w HB.out HB.size _ k vs rfl O.1 (w2.alloc (.cells #[.slice B U d] 34)).heap.size _ 1 1 [.slice B U d] rfl d1.out (fun v hv=>by simp only[c_]at hv;rw[hv];rfl) (k+1) _ rfl rfl (by unfold maxLen;omega) o_ ?_);intro A3 c3 w5 z1 z2 z3 z4 z5;have d2:=ROwn.more O.2 O.1 z3 HX.1 HX.2.1 HX.2.2.1 HX.2.2.2;have HN:=H_ (d_ z1 (show ROwn w w5 (vs++[.slice B U d]) ((q.take (k+1)).map fun p=>p.1.2.flatten) by rw[HT.out,aK_];exact d2));clear z1 z3 z4 z5 d2 HX d1 O HB;go_wp2;go_roundw
   case rel=>exact⟨k+1,A3,c3,_,o_,rfl,by go_num,HN,z2⟩
   case measure=>simp[intOf];omega
  ·obtain rfl:k=n:=o_
   have d':((k:Int) < (k:Int))=False:=eq_false o_;have a1:q.take k=q:=i_ o_;have hq:=HQ.out;rw[a1]at hq;have HF:=H_ hq;clear hq a1 HQ;go_wp2;go_ret;exact⟨A2,k,c2,vs,rfl,by rw[aG_];omega,HF.1,HF.2,z⟩
theorem pv4:(prog.info? 3).map (fun i=>(i.zero,i.size,i.bytes))=some (some (.int .i64 0),1,8):=by kernel_rfl
theorem xz4 {B n:Nat} {w:World} {A:Option Addr} {q:List Tq} (h:Row B w A n 3 (hcells q)) {k:Nat} (E:k < q.length):
  ∃a,A=some a/\a.block < B/\w.cell? (a.add (k *3))=some (.int .i64 q[k].1.1.1)/\w.cell? ⟨(a.add (k *3)).block,(a.add (k *3)).off+1,none⟩=some (.int .i64 q[k].1.1.2)/\w.cell? ⟨(a.add (k *3)).block,(a.add (k *3)).off+2,none⟩=some (.pointer (some ⟨q[k].2,0,none⟩)):=by
 have o:=fun j (hj:j < 3)=>kv1 (fun p:Tq=>[Value.int .i64 p.1.1.1,.int .i64 p.1.1.2,.pointer (some p.2)]) 3 (fun _=>rfl) q k j E hj;obtain⟨a,rfl,H,I⟩:=fx1 h (o 0 o_);have C:∀j v,0 < j->j < 3->[Value.int .i64 q[k].1.1.1,.int .i64 q[k].1.1.2,.pointer (some ⟨q[k].2,0,none⟩)][j]?=some v->w.cell? ⟨(a.add (k *3)).block,(a.add (k *3)).off+j,none⟩=some v:=fun j v J hj O=>by
  obtain⟨U,z,_,Q⟩:=fx1 h ((o j hj).trans O);injection z with z;subst z;rw[<-uq2 a (k *3) J];exact Q
 exact⟨a,rfl,H,I,C 1 _ o_ o_ rfl,C 2 _ o_ o_ rfl⟩
theorem ew4 (s n c:Nat) (A:Option Addr) (q:List Tq) (w:World) (d2:w.cell? (s,4)=some (.slice A n c)) (hr:Row w w A n 3 (hcells q)) (hn:n<=100000):
  Calls prog 57 #[s] w fun e w'=>∃A' k c',e=.returned (.slice A' k c')/\k=q.length/\w'.ownsRow w 3 1 (.slice A' k c') k (q.map fun p=>.int .i64 p.1.1.2)/\Below w w w':=by
 obtain⟨i0,b1,b2,b3,b5⟩:=info_parts pv4;have b6:q.length=n:=by have:=hr.len;rw[xq]at this;omega
 have HR:=H_ hr;clear hr;go_enter func57,ntmps57;go_wp2
 go_loopw [3,11] (fun o i wr=>∃(k:Nat) (A2:Option Addr) (c2:Nat),k<=n/\o=.slice A2 k c2/\i=.int .i64 (k:Int)/\Hid (wr.ownsRow w 3 1 (.slice A2 k c2) k ((q.take k).map fun p=>.int .i64 p.1.1.2))/\Below w w wr) (fun _ i _=>n - (intOf i).toNat)
 case atStart=>exact⟨0,none,0,A_ _,rfl,rfl,H_ (G_ _ _ _ _),Below.refl _ _⟩
 case round=>
  obtain⟨k,A2,c2,hk,rfl,rfl,HQ,z⟩:=hrel
  by_cases d5:k < n
  ·have O:k < q.length:=o_
   have b7:(k:Int) < (n:Int):=o_
   obtain⟨a,rfl,b8,Q,a0,a1⟩:=xz4 HR.out O;have a2:q.take (k+1)=q.take k++[q[k]]:=by rw[v_ O]
   generalize q[k]=p at *;have C:(a.add (k *3)).block < (w:Nat):=by rw[add_block];exact b8
   have c0:=(z.cell (p:=a.add (k *3)) C).trans Q;have c1:=(z.cell (p:=⟨(a.add (k *3)).block,(a.add (k *3)).off+1,none⟩) C).trans a0;have d6:=(z.cell (p:=⟨(a.add (k *3)).block,(a.add (k *3)).off+2,none⟩) C).trans a1;have H:=b_ wr (.cells #[p.1.1.1,p.1.1.2,p.2] 178);obtain⟨U,hU⟩:=n_ (wr.alloc (.cells #[p.1.1.1,p.1.1.2,p.2] 178));have b9:BoxO U 178 (wr:Nat) [p.1.1.1,p.1.1.2,p.2]:=by rw[hU];exact BoxO.new wr #[p.1.1.1,p.1.1.2,p.2] 178
   rw[<-hU]at H;have a4:(U:Nat)=(wr:Nat)+1:=by rw[hU,F_]
   have J:=b_ U (.cells #[p.1.1.2] 3);have a5:=az (az z H) J;have a6:=own_below (own_below HQ.out H) J;have E:Row (U.alloc (.cells #[p.1.1.2] 3)).heap.size (U.alloc (.cells #[p.1.1.2] 3)) (some ⟨(wr:Nat)+1,0,none⟩) 1 1 [p.1.1.2]:=a4▸(Row.new U #[p.1.1.2] 3 (n:=1) (size:=1) rfl).up s_;have a7:=H_ E;have a8:=H_ a6;have HB:=H_ a5;have HT:=H_ (show ((q.take k).map fun p=>Value.int .i64 p.1.1.2)++[.int .i64 p.1.1.2]=(q.take (k+1)).map fun p=>.int .i64 p.1.1.2 by rw[a2,aK_];rfl);subst hU;clear E J a5 a6 a2 H b9 a4 Q a0 a1 HQ;go_wp2_with (at_builtin;refine iq ?_);refine gz (iy rfl (.tmp 15) (.tmp 19) _ rfl (w:Nat) 3 i0 _ 1 8 underlying73 b1 b2 b3 b5 rfl o_ w HB.out HB.size _ k _ rfl a8.out _ _ 1 1 [p.1.1.2] rfl a7.out (fun v hv=>by simp only[c_]at hv;rw[hv];rfl) (k+1) _ rfl HT.out (by unfold maxLen;omega) o_ ?_);intro A3 c3 w5 z1 z2 z3 z4 z5;have HN:=H_ z1;clear z1 z3 z4 z5 a7 a8 HB;go_wp2;go_roundw
   case rel=>exact⟨k+1,A3,c3,o_,rfl,by go_num,HN,z2⟩
   case measure=>simp[intOf];omega
  ·obtain rfl:k=n:=o_
   have b7:((k:Int) < (k:Int))=False:=eq_false o_;have I:q.take k=q:=i_ o_;have hq:=HQ.out;rw[I]at hq;have HF:=H_ hq;clear hq I HQ;go_wp2;go_ret;exact⟨A2,k,c2,rfl,b6.symm,HF,z⟩
theorem kj4 (l:List Int) (x:Int) (A:Option Addr) (n c:Nat) (hn:n<=1000000) (w:World) (h:Row w w A n 1 (pz l)):
  Calls prog 186 #[.slice A n c,x] w fun e w'=>(∃r:Int,e=.returned (.int .i64 r)/\(0<=r↔x∈l))/\w=w':=by
 have o:=h.len;unfold pz at o;rw[aG_]at o;have H:=H_ o;clear o;go_enter func186,ntmps186;go_wp2
 go_loop [8] (fun i=>∃k:Nat,k<=n/\i=.int .i64 k/\Hid (∀j,j < k->l[j]?≠some x)) (fun i=>n - (intOf i).toNat)
 case atStart=>exact⟨0,A_ _,rfl,H_ (fun j hj=>absurd hj (bY_ _))⟩
 case round=>
  obtain⟨k,hk,rfl,E⟩:=hrel
  by_cases C:k < n
  ·obtain⟨a,I,rfl,J,hc⟩:=h.int_ C
   have F:=H_ (j_ I);generalize l[k]=y at *
   by_cases z:x=y
   ·subst z
    go_wp2;go_ret;refine⟨⟨(k:Int),rfl,⟨fun _=>u_ F.out,fun _=>o_⟩⟩,rfl⟩
   ·have O:(x==y)=false:=beq_eq_false_iff_ne.2 z
    have Q:=H_ z;clear z;go_wp2
    go_round
    case rel=>
     refine⟨k+1,C,by go_num,H_ fun j hj=>?_⟩
     rcases ad_ j k with h1|h1
     ·exact E.out j h1
     ·obtain rfl:j=k:=o_
      rw[F.out];intro e;injection e with e;exact Q.out e.symm
    case measure=>simp[intOf];omega
  ·obtain rfl:k=n:=o_
   go_wp2;go_ret;refine⟨⟨-1,rfl,⟨fun h=>o_,fun U=>?_⟩⟩,rfl⟩;obtain⟨j,hj,e⟩:=bJ_.1 U;exact absurd (by rw[j_ hj,e]) (E.out j (by rw[H.out]at hj;omega))
theorem uj2 (l:List Int) (x:Int) (A:Option Addr) (n c:Nat) (I:n<=1000000) (w:World) (h:Row w w A n 1 (pz l)):
  Calls prog 124 #[.slice A n c,x] w fun e w'=>e=.returned (.bool (decide (x∈l)))/\w=w':=by
 have z:=H_ (kj4 l x A n c I w h)
 by_cases C:x∈l
 all_goals
  have o:=H_ C;clear C;go_enter func124,ntmps124;go_wp2_with fail;refine z.mono ?_;rintro e w1 ⟨⟨r,rfl,E⟩,rfl⟩;have H:decide (0<=r)=decide (x∈l):=decide_eq_decide.2 E
  first|rw[decide_eq_true o.out]at H|rw[decide_eq_false o.out]at H
  clear E z;go_wp2;go_ret;exact⟨kw1 (by first|rw[decide_eq_true o.out]|rw[decide_eq_false o.out]),rfl⟩
def Tq.cells (x:Tq):List Value:=[x.1.1.1,x.1.1.2,x.2]
def Tq.val (x:Tq):Value:=.agg #[x.1.1.1,x.1.1.2,x.2]
theorem vy2 (a b:List Tq):hcells (a++b)=hcells a++hcells b:=bl_
theorem mk3 (q:List Tq):∀k,hcells (q.take k)=(hcells q).take (k *3):=by
 induction q with
 |nil=>intro k;simp[hcells]
 |cons a q o=>
  intro k
  cases k with
  |zero=>simp[hcells]
  |succ k=>
   have h1:hcells (a::q)=a.cells++hcells q:=rfl;have h2:hcells ((a::q).take (k+1))=a.cells++hcells (q.take k):=rfl;rw[h1,h2,show (k+1)*3=a.cells.length+k *3 by simp[Tq.cells];omega,List.take_length_add_append,o]
theorem lk4 (q:List Tq) (k t:Nat) (o:k < q.length) (z:t < 3):(hcells q)[k *3+t]?=(q[k]).cells[t]?:=kv1 (fun p:Tq=>[Value.int .i64 p.1.1.1,.int .i64 p.1.1.2,.pointer (some p.2)]) 3 (fun _=>rfl) q k t o z
theorem cq5 (K:Nat) (hF:∀args w,(callFunc K args).run prog w=.ok (.enter K args) w) (C:Array Value) (P:Tq->Bool) (A:Option Addr) (n c:Nat) (l:List Tq) (w:World) (hn:n<=1000000) (U:Row w.heap.size w A n 3 (hcells l))
  (hK:∀x w1,Below w.heap.size w w1->Calls prog K (#[x.val] ++C) w1 fun e w'=>e=.returned (.bool (P x))/\Below w1.heap.size w1 w'):
  Calls prog 185 #[.slice A n c,.func (.func K) #[] C] w fun e w'=>e=.returned (.int .i64 (fidx P l))/\Below w.heap.size w w':=by
 have b0:l.length=n:=by have:=U.len;rw[xq]at this;omega
 have HK:=H_ hK;have HF:=H_ hF;have HR:=H_ U;clear hK hF U;go_enter func185,ntmps185;go_wp2
 go_loopw [8] (fun i wr=>∃k:Nat,k<=n/\i=.int .i64 k/\Hid ((l.take k).any P=false)/\Below w.heap.size w wr) (fun i _=>n - (intOf i).toNat)
 case atStart=>exact⟨0,A_ _,rfl,H_ rfl,Below.refl _ _⟩
 case round=>
  obtain⟨k,hk,rfl,hb,o⟩:=hrel
  by_cases b5:k < n
  ·have Q:k < l.length:=o_
   obtain⟨a,rfl,a1,H,I,J⟩:=xz4 HR.out Q;have z:(a.add (k *3)).block < w.heap.size:=by rw[add_block];exact a1
   have c0:=(o.cell (p:=a.add (k *3)) z).trans H;have c1:=(o.cell (p:=⟨(a.add (k *3)).block,(a.add (k *3)).off+1,none⟩) z).trans I;have b6:=(o.cell (p:=⟨(a.add (k *3)).block,(a.add (k *3)).off+2,none⟩) z).trans J;have ht:=mx1 (P:=P) Q;have hs:=fun h1=>gy1 (P:=P) Q hb.out h1;generalize l[k]=f at *;have HT:=H_ ht;have HS:=H_ hs;clear ht hs Q H I J;have hc:=HK.out f wr o;unfold Tq.val at hc;generalize hp:P f=p at hc;have HP:=H_ hp;clear hp;have a4:(k:Int) < (n:Int):=o_
   go_wp2_with fail;rw[HF.out,Oper.upon_enter];refine hc.mono ?_;rintro e w1 ⟨rfl,O⟩
   cases p with
   |true=>
    go_wp2;go_ret;exact⟨wq1 (HS.out HP).symm,az o O⟩
   |false=>
    go_wp2;go_roundw
    case rel=>exact⟨k+1,o_,by go_num,H_ (by rw[HT.out,hb.out,HP.out];rfl),az o O⟩
    case measure=>simp[intOf];omega
  ·have E:fidx P l=-1:=av1 (by
    have a5:=hb.out
    rwa [i_ o_]at a5)
   have HA:=H_ E;clear E;have a4:((k:Int) < (n:Int))=False:=eq_false o_;go_wp2;go_ret;exact⟨wq1 HA.symm,o⟩
theorem pj2 {P:Tq->Bool} {l:List Tq} {q:Nat} (h:q < l.length):(l.take (q+1)).filter P=(l.take q).filter P++(if P l[q]=true then [l[q]] else []):=by
 rw[v_ h,bZ_,bv_,List.filter_nil]
theorem sw4 {P:Tq->Bool} {l:List Tq} (h:l.any P=true):(l.take (l.findIdx P+1)).filter (fun y=>!P y)=l.take (l.findIdx P):=by
 have o:l.findIdx P < l.length:=b3_.2 (by simpa using h);rw[pj2 o];have h1:P l[l.findIdx P]=true:=bG_;have h2:(l.take (l.findIdx P)).filter (fun y=>!P y)=l.take (l.findIdx P):=a8_.2 fun y z=>by
  obtain⟨i,hi,rfl⟩:=aJ_.1 z;have:=List.not_of_lt_findIdx (p:=P) (xs:=l) (i:=i) o_;simpa using this
 rw[h2];simp[h1]
structure Hk (cur cs:List Value) (cap p q:Nat) (L:List Tq):Prop where
 len:cs.length=cap *3
 pre:cs.take (p *3)=hcells L
 post:cs.drop (q *3)=cur.drop (q *3)
 pl:L.length=p
theorem Hk.skip {cur cs:List Value} {cap p q:Nat} {L:List Tq} (h:Hk cur cs cap p q L):Hk cur cs cap p (q+1) L:=
 ⟨h.len,h.pre,by rw[show (q+1)*3=q *3+3 by omega,<-aW_,h.post,aW_],h.pl⟩
theorem Tq.dw (x:Tq):x.cells.length=3:=rfl
theorem Hk.keep {cur cs:List Value} {cap p q:Nat} {L:List Tq} (h:Hk cur cs cap p q L) (z:p < q) (C:q < cap) (y:Tq):Hk cur (cs.take (p *3)++(y.cells++cs.drop (p *3+y.cells.length))) cap (p+1) (q+1) (L++[y]):=by
 have E:=h.len;have o:=h.pl;refine⟨by simp only[e_,y_,I_,Tq.dw];omega,?_,?_,by simp[o]⟩
 ·rw[<-J_,Z_ (by simp only[e_,y_,Tq.dw];omega),i_ (by simp only[e_,y_,Tq.dw];omega),h.pre,vy2]
  rfl
 ·rw[<-J_,show (q+1)*3=(cs.take (p *3)++y.cells).length+((q - p)*3) by simp only[e_,y_,Tq.dw];omega,bP_,aW_,aC_ o_,D_]
  have:=h.skip.post;rw[show p *3+y.cells.length+((cs.take (p *3)++y.cells).length+(q - p)*3 - (cs.take (p *3)++y.cells).length)=(q+1)*3 by simp only[e_,y_,Tq.dw];omega,this]
  congr 1
  simp only[e_,y_,Tq.dw];omega
theorem mj2 (w:World) (g o k:Nat) (H:∀j,j < k *3->(w.cell? ⟨g,o+j,none⟩).isSome=true) (I:∀j,j < k *3->w.frozen? ⟨g,o+j,none⟩=false):
  ∃cs:List Value,cs.length=k *3/\∀ty c,(Builtin.clear_ #[91] ty #[.slice (some ⟨g,o,none⟩) k c]).run prog w=.ok (.tuple #[]) (w.setCells g o cs):=by
 refine⟨(Builtin.zeroCells (Value.agg #[.int .i64 0,.int .i64 0,.pointer none]).cells k).toList,by simp[Builtin.zeroCells,Value.cells],fun ty c=>?_⟩;have C:(Builtin.zeroCells (Value.agg #[.int .i64 0,.int .i64 0,.pointer none]).cells k).toList.length=k *3:=by simp[Builtin.zeroCells,Value.cells]
 have h1:∀v∈(Builtin.zeroCells (Value.agg #[.int .i64 0,.int .i64 0,.pointer none]).cells k).toList,v.oneCell'=true:=fun v E=>by
  simp only[Builtin.zeroCells,Value.cells,Array.mem_toList_iff,Array.mem_map]at E;obtain⟨a,_,rfl⟩:=E;have h5:a % 3 < 3:=bB_ _ o_;show Value.oneCell' ((#[.int .i64 0,.int .i64 0,.pointer none]:Array Value)[a % 3]!)=true
  generalize a % 3=b at *
  match b with
  |0=>rfl
  |1=>rfl
  |2=>rfl
  |b+3=>omega
 have z:=run_storeCells_cells (P:=prog) g o (Builtin.zeroCells (Value.agg #[.int .i64 0,.int .i64 0,.pointer none]).cells k).toList 0 w (by simpa [C] using H) (by simpa [C] using I) h1;simp only[bp_]at z;have J:(zeroValue 178).run prog w=.ok (.agg #[.int .i64 0,.int .i64 0,.pointer none]) w:=by kernel_rfl
 cases k with
 |zero=>simp[Builtin.clear_,run_underlying underlying91,Builtin.zeroCells,World.setCells]
 |succ k=>simp[Builtin.clear_,run_underlying underlying91,J,z]
theorem cj5 (K:Nat) (hF:∀args w,(callFunc K args).run prog w=.ok (.enter K args) w) (a0:Array Value) (P:Tq->Bool) (base:Nat) (A:Option Addr) (n c2 cap:Nat) (l:List Tq) (w:World) (hn:n<=1000000) (j3:n<=c2) (a1:base<=w.heap.size) (ho:w.ownsRow base 178 3 (.slice A n cap) n (hcells l))
  (hK:∀x w1,(∀F,(∀a,A=some a->F=[a.block])->Chg F w w1)->Calls prog K (#[x.val] ++a0) w1 fun e w'=>e=.returned (.bool (P x))/\Below w1.heap.size w1 w'):
  Calls prog 122 #[.slice A n c2,.func (.func K) #[] a0] w fun e w'=>∃k A',e=.returned (.slice A' k c2)/\k=(l.filter fun y=>!P y).length/\w'.ownsRow base 178 3 (.slice A' k cap) k (hcells (l.filter fun y=>!P y))/\Below base w w':=by
 have C:=cq5 K hF a0 P A n c2 l w hn (Row.own ho) (fun x w1 hb=>hK x w1 (fun F _=>Chg.of_below hb F));have b5:l.length=n:=by have:=ho.1;rw[xq]at this;omega
 cases o:l.any P with
 |false=>
  rw[av1 o]at C;have d6:(l.filter fun y=>!P y)=l:=a8_.2 fun y hy=>by
   have:=(ab_.1 o) y hy;simpa using this
  have HF:=H_ d6;have HO:=H_ ho;have HI:=H_ C;have g':=H_ b5;clear C o d6 ho hK b5;go_enter func122,ntmps122;go_wp2_with fail;refine HI.mono ?_;rintro e w1 ⟨rfl,Q⟩;go_wp2;go_ret;exact⟨n,A,rfl,by rw[HF.out];exact g'.symm,by rw[HF.out];exact own_below HO.out Q,Q.mono a1⟩
 |true=>
  rcases ho.2 with ⟨j6,h0⟩|⟨g,i6,cur,h6,d7,a2,j8,h7,h8,b6⟩
  ·subst h0
   have:l=[]:=ae_.1 b5;subst this
   cases o
  injection h6 with hA _ hc;subst hA hc;have hB:BoxO w 178 g cur.toList:=by unfold BoxO;simpa using a2
  have h9:cur.toList.length=cap *3:=by simpa using h8
  generalize cur.toList=cu at *;obtain⟨k0,d9,k1,h',d'⟩:=uq3 o;have a4:=sw4 o;rw[d']at a4;rw[d9]at C;have e0:Hk cu cu cap k0 (k0+1) ((l.take (k0+1)).filter fun y=>!P y):=by
   rw[a4];exact⟨h9,by rw[mk3,<-b6,aH_,aQ_ o_],rfl,by rw[y_];omega⟩
  have HI:=H_ C;have e2:=H_ e0;have HB:=H_ hB;have HF:=H_ hF;have HK:=H_ hK;have i0:=H_ b6;have k3:k0 < n:=o_
  unfold maxLen at h7;clear C e0 a4 o h' d' d9 hF hK b6 a2 ho hB;go_enter func122,ntmps122;go_wp2_with fail;refine HI.mono ?_;rintro e w1 ⟨rfl,Q⟩;have e4:=HB.below Q;have e5:Chg [g] w w1:=Chg.of_below Q [g];have e1:((k0:Int)==-1)=false:=by rw[beq_eq_false_iff_ne];omega
  have e6:=H_ e4;clear HI HB e4 Q;go_wp2_with fail
  go_loopw [5,6] (fun i j wr=>∃p q:Nat,p < q/\q<=n/\i=.int .i64 p/\j=.int .i64 q/\Hid (∃cs,BoxO wr 178 g cs/\Hk cu cs cap p q ((l.take q).filter fun y=>!P y))/\Chg [g] w wr) (fun i j _=>n - (intOf j).toNat)
  case atStart=>exact⟨k0,k0+1,o_,o_,rfl,by go_num,H_ ⟨cu,e6,e2⟩,e5⟩
  case round=>
   obtain⟨p,q,i1,k5,rfl,rfl,a7,hC⟩:=hrel;clear e6 e2 e5 e1
   by_cases k6:q < n
   ·obtain⟨cs,I,U⟩:=a7.out
    have hl:q < l.length:=o_
    have hq:∀t v,t < 3->(l[q]).cells[t]?=some v->wr.cell? ⟨g,q *3+t,none⟩=some v:=fun t v ht hv=>by
     rw[I.cell,show cs[q *3+t]?=(cs.drop (q *3))[t]? by rw[aA_],U.post,aA_,<-hv,<-lk4 l q t hl ht,<-i0.out,aY_,if_pos o_]
    have e7:=pj2 (P:=fun y=>!P y) hl;generalize l[q]=y at *;have d0:=hq 0 _ o_ rfl;rw[bp_]at d0;have d1:=hq 1 _ o_ rfl;have d2:=hq 2 _ o_ rfl;have J:Chg [g] w (wr.alloc (.cells #[y.1.1.1,y.1.1.2,y.2] 178)):=hC.alloc _;have hk:=HK.out y (wr.alloc (.cells #[y.1.1.1,y.1.1.2,y.2] 178)) (fun F hF=>by rw[hF _ rfl];exact J);have b8:=BoxO.new wr #[y.1.1.1,y.1.1.2,y.2] 178;have a5:=I.alloc (.cells #[y.1.1.1,y.1.1.2,y.2] 178);unfold Tq.val at hk;obtain⟨b,hb⟩:=n_ (P y);rw[<-hb]at hk;have e9:=H_ e7;have HB:=H_ hb;have a8:=H_ U;have b9:=H_ hk;have k8:(q:Int) < (n:Int):=o_
    have k9:(p:Int) < (n:Int):=o_
    clear e7 hb U hk hq I a7 hl;go_wp2_with fail;rw[HF.out,Oper.upon_enter];refine b9.mono ?_;rintro e w2 ⟨rfl,b'⟩;have O:=b8.below b';have z:=a5.below b';have e':Chg [g] w w2:=J.trans (Chg.of_below b' []) (fun g hg=>by cases hg);generalize (wr:Nat)=bv at *
    cases b with
    |true=>
     have E:Hk cu cs cap p (q+1) ((l.take (q+1)).filter fun y=>!P y):=by
      rw[e9.out,<-HB.out];simpa using a8.out.skip
     have a6:=H_ E;clear E d0 d1 d2 b9 b8 a5 J;go_wp2;go_roundw
     case rel=>exact⟨p,q+1,o_,o_,rfl,by go_num,H_ ⟨cs,z,a6⟩,e'⟩
     case measure=>simp[intOf];omega
    |false=>
     have E:=a8.keep i1 o_ y;have f0:((l.take (q+1)).filter fun y=>!P y)=((l.take q).filter fun y=>!P y)++[y]:=by
      rw[e9.out,<-HB.out];rfl
     rw[<-f0]at E;have f1:=BoxO.stores y.cells (p *3) w2 cs z (by have:=a8.len;rw[Tq.dw];omega);have f2:=ay1 g y.cells (p *3) w w2 e';have H:∀t,t < 3->∃u,w2.cell? ⟨g,p *3+t,none⟩=some u:=fun t ht=>⟨cs[p *3+t]'(by have:=a8.len;omega),by rw[z.cell];exact j_ _⟩;obtain⟨u0,s0⟩:=H 0 o_;obtain⟨u1,s1⟩:=H 1 o_;obtain⟨u2,s2⟩:=H 2 o_;have z0:=z.free (p *3);have z1:=z.free (p *3+1);have z2:=z.free (p *3+2);have b0:=O.cell 0;have b1:=O.cell 1;have b2:=O.cell 2;simp only[gE0,gE1,bp_]at b0 b1 b2 s0;have a6:=H_ E;have f3:=H_ (d_ f1 f2);clear E f0 f1 f2 H d0 d1 d2 b9 b8 a5 J O z;go_wp2;go_roundw
     case rel=>exact⟨p+1,q+1,o_,o_,by go_num,by go_num,H_ ⟨_,f3.1,a6⟩,f3.2⟩
     case measure=>simp[intOf];omega
   ·obtain rfl:q=n:=o_
    obtain⟨cs,I,U⟩:=a7.out;have a9:=U.pl;obtain⟨zs,i5,f4⟩:=mj2 wr g (p *3) (q - p) (fun j hj=>by rw[I.cell,j_ (by have:=U.len;omega)];rfl) (fun j hj=>I.free _);obtain⟨W2,c9⟩:=n_ (wr.setCells g (p *3) zs);have d3:=BoxO.stores zs (p *3) wr cs I (by have:=U.len;omega);have J:=ay1 g zs (p *3) w wr hC;rw[<-c9]at d3 J;simp only[<-c9]at f4;have a':(l.take q).filter (fun y=>!P y)=l.filter (fun y=>!P y):=by rw[i_ o_]
    rw[a']at U a9;have b3:W2.ownsRow base 178 3 (.slice (some g) p cap) p (hcells (l.filter fun y=>!P y)):=by
     refine⟨by rw[xq,a9],.inr ⟨g,cap,_,rfl,d7,d3,o_,by unfold maxLen;omega,?_,?_⟩⟩
     ·have:=U.len
      simp only[az_,e_,y_,I_];omega
     ·rw[bo_,Z_ (by have:=U.len;rw[y_];omega),aH_,cG_,U.pre]
    have f5:=H_ (d_ a9.symm (d_ b3 (J.below a1 (by simpa using d7))));have l4:((q:Int) < (q:Int))=False:=eq_false o_;have l5:¬(c2=p):=o_
    have i9:(p:Int)<=(q:Int):=o_
    have i':p<=q:=o_
    have l6:p<=c2:=o_
    have j0:(p:Int)<=(c2:Int):=o_
    clear I U a9 i5 d3 J a' b3 a7 hC c9;go_wp2_with fail;go_ret;exact⟨p,_,rfl,f5⟩
section
variable {w w1 w2:World} {X X1 X2:Dw} {S S1 S2:Sd} {Y Y1 Y2:Yw} {V V1 V2:Sv}
theorem dv4 (x:Tq) (inn:List Int) (D:Option Addr) (dm dd g6:Nat) (w:World) (C:dm<=1000000) (E:w.cell? g6=some (.slice D dm dd)) (H:Row w w D dm 1 (pz inn)):
  Calls prog 123 (#[x.val] ++#[.pointer (some g6)]) w fun e w'=>e=.returned (.bool (decide (x.1.1.2∈inn)))/\Below w w w':=by
 have z:=b_ w (.cells #[x.1.1.1,x.1.1.2,x.2] 178);have I:∀o,(w.alloc o).cell? g6=some (.slice D dm dd):=fun o=>(ap_ w o _ (S_ w _ E)).trans E;have J:=H_ (uj2 inn x.1.1.2 D dm dd C (w.alloc (.cells #[x.1.1.1,x.1.1.2,x.2] 178)) ((H.below z).up z.size));unfold Tq.val;clear H;go_enter func123,ntmps123;go_wp2_with fail;refine J.mono ?_;rintro e w1 ⟨rfl,rfl⟩;go_wp2;go_ret;exact⟨rfl,z⟩
theorem SvAt.tset (h:SvAt w X S Y V) (T:Sl) (q:List Tq) (ts:List ((Int×Int)×List (List It))) (I:uw (XY X Y) w fun w=>iv1 w T q ts):
  SvAt (w.setCell (Y.s,4) (.slice T.a T.n T.c)) X S { Y with T:=T,q:=q } { V with tabs:=ts }/\Chg [Y.s] w (w.setCell (Y.s,4) (.slice T.a T.n T.c))/\Chg (XY X Y) w (w.setCell (Y.s,4) (.slice T.a T.n T.c)):=by
 have c:Chg [Y.s] w (w.setCell (Y.s,4) (.slice T.a T.n T.c)):=(Chg.refl _ _).setCell _ (.inl s_);have z:Y.s∈Y.foot:=Yw.aj.2 (.inl rfl);have C:Chg (XY X Y) w (w.setCell (Y.s,4) (.slice T.a T.n T.c)):=c.mono fun g o=>.inl (by
  rw[c_.1 o];exact k_ _ z)
 have H:∀g∈Y.m::Y.g::Y.mm::skF Y.L Y.ns,g∉[Y.s]:=fun g o E=>h.apart.s (by rw[<-c_.1 E];exact o);exact⟨⟨h.dm.chg c (fun g o=>by rw[c_.1 o];exact⟨h.apart.x _ z,h.ng _ z⟩),h.box.store 4 (.slice T.a T.n T.c),h.man.chg c (H _ p_),⟨(nz c h.row.row l_ (fun j hj a J E=>h.pout j hj a J (by rw[c_.1 E];exact z))).up c.size,h.row.nc,h.row.cm,h.row.nb,h.row.away⟩,h.pout,h.log.chg c (H _ (f_ _ p_)),h.mem.chg c (fun g o=>H _ (f_ _ (f_ _ o))),h.its,I.step C (fun g o=>.inl o),h.st.step C (fun g o=>.inl o),⟨h.apart.x,h.apart.s,h.apart.m,h.apart.g⟩,h.ng⟩,c,C⟩
theorem tw3 (h:SvAt w X S Y V) (gt g5 g9:Nat) (T:Sl) (q:List Tq) (ts:List ((Int×Int)×List (List It))) (N:Option Addr) (nn nc:Nat) (next:List It) (bt:BoxO w 91 gt [.slice T.a T.n T.c]) (bs:BoxO w 55 g5 [Y.s]) (C:BoxO w 34 g9 [.slice N nn nc])
  (O:g5≠Y.s) (Q:g9≠Y.s) (E:uw (XY X Y) w fun w=>iv1 w T q ts) (H:uw (XY X Y) w fun w=>Its 0 w N nn nc next):
  Calls prog 125 #[gt,g5,g9] w fun e w'=>e=.returned (.tuple #[])/\SvAt w' X S { Y with T:=T,q:=q,A:=⟨N,nn,nc⟩ } (St.mergeD ts next V)/\Chg (XY X Y) w w':=by
 obtain⟨h1,c1,c2⟩:=h.tset T q ts E;have t0:=bt.cell 0;have U:=bs.cell 0;have c4:=h.box.cell 4;have f4:=h.box.free 4;have s1:=(bs.chg c1 (by simpa using O)).cell 0;have x1:=(C.chg c1 (by simpa using Q)).cell 0;simp only[Yw.cells,gE0,gE1]at t0 U c4 s1 x1;have o:=H_ (yx2 h1 N nn nc next (H.step c2 (fun g z=>.inl z)));have I:=H_ c2;clear h1 c1 c2 h bt bs C E H;go_enter func125,ntmps125;go_wp2_with fail;refine o.mono ?_;rintro e J ⟨rfl,h3,c3⟩;have HF:Hid (SvAt J X S { Y with T:=T,q:=q,A:=⟨N,nn,nc⟩ } (St.mergeD ts next V)/\Chg (XY X Y) w J):=H_ ⟨h3,I.trans c3 (fun g z=>.inl z)⟩;clear h3 c3 o I;go_wp2;exact bodyPost_end (v:=.tuple #[]) (by simp[results,go_sem]) rfl ⟨rfl,HF⟩
theorem gw1 {W:World} {b s n g:Nat} {e C:TypeId} {v:Value} {xs H:List Value} (h:W.ownsRow b e s v n xs) (k:BoxO W C g H) (E:e≠C):v.ownBlock≠some g:=by
 rcases h.2 with ⟨rfl,_⟩|⟨g1,cap,cur,rfl,_,I,_⟩
 ·simp[Value.ownBlock]
 ·intro z
  injection z with z;have z:g1=g:=z;subst z;have o:W.heap[g1]?=some (.cells H.toArray C (0,0)):=k;rw[I]at o;injection o with o;injection o with _ o _;exact E o
theorem yy4 {W:World} {b s n H I n':Nat} {e z:TypeId} {v E:Value} {xs J:List Value} (h:W.ownsRow b e s v n xs) (k:W.ownsRow H z I E n' J) (C:e≠z):∀g,E.ownBlock=some g->v.ownBlock≠some g:=by
 intro g o
 rcases k.2 with ⟨rfl,_⟩|⟨g1,cap,cur,rfl,_,O,_⟩
 ·simp[Value.ownBlock]at o
 ·injection o with o
  have o:g1=g:=o;subst o;exact gw1 h (show BoxO W z g1 cur.toList by unfold BoxO;simpa using O) C
theorem dw1.own {W:World} {B b s n:Nat} {e:TypeId} {v:Value} {xs:List Value} (la:dw1 B W) (h:W.ownsRow b e s v n xs):v.ownBlock≠some B/\v.ownBlock≠some (B+1):=by
 obtain⟨h1,r,h2⟩:=la
 rcases h.2 with ⟨rfl,_⟩|⟨g1,cap,cur,rfl,_,z,_⟩
 ·simp[Value.ownBlock]
 ·constructor
  all_goals
   intro o;injection o with o;have o:g1=_:=o;subst o
  ·rw[h1]at z;cases z
  ·rw[h2]at z;cases z
theorem dw1.box {W:World} {B g:Nat} {e:TypeId} {xs:List Value} (la:dw1 B W) (h:BoxO W e g xs):g≠B/\g≠B+1:=by
 obtain⟨h1,r,h2⟩:=la;unfold BoxO at h;constructor
 ·rintro rfl
  rw[h1]at h;cases h
 ·rintro rfl
  rw[h2]at h;cases h
def dy4 (B:Nat) (r:Loop) (W:World):Prop:=W.heap[B]?=some (.deferred (some []))/\W.heap[B+1]?=some (.loop r)
theorem dy4.at_ {B:Nat} {r:Loop} {W:World} (h:dy4 B r W):dw1 B W:=⟨h.1,r,h.2⟩
def blk (s:Sl):List Nat:=(Value.slice s.a s.n s.c).ownBlock.toList
theorem pq {s:Sl} {g:Nat}:g∈blk s↔(Value.slice s.a s.n s.c).ownBlock=some g:=bg_
def mgG (b gt LB:Nat) (F T:Sl):List Nat:=[b+4,b+5,gt,LB,LB+1] ++(blk F++blk T)
theorem jk {b gt LB g:Nat} {F T:Sl}:g∈mgG b gt LB F T↔g=b+4\/g=b+5\/g=gt\/g=LB\/g=LB+1\/g∈blk F\/g∈blk T:=by simp[mgG]
def Mg5 (b s gt:Nat) (D:Option Addr) (dm dd:Nat) (lev:Int) (N:Option Addr) (nn nc:Nat) (L:Option Addr) (lm lc:Nat) (q1:List Tq) (W:World):Prop:=
 (BoxO W 55 b [s]/\BoxO W 73 (b+1) [.slice D dm dd]/\BoxO W 3 (b+2) [lev]/\BoxO W 34 (b+3) [.slice N nn nc]/\BoxO W 34 (gt+1) [.slice L lm lc]/\BoxO W 3 (gt+2) [.int .i64 200])/\∀p∈q1,TbAt W p.2 p.1.2
structure MgK (w:World) (X:Dw) (Y:Yw) (V:Sv) (gt LB:Nat) (r:Loop) (D:Option Addr) (dm dd:Nat) (lev:Int) (N:Option Addr) (nn nc:Nat) (L:Option Addr) (lm lc:Nat) (q0:List Tq) (W:World) (X1:Dw) (S1:Sd) (F T:Sl) (adds:List (Int×Int)) (q1 qs:List Tq):Prop where
 way:Way w X Y V W X1 S1
 la:dy4 LB r W
 lo:(w:Nat)+5 < gt/\gt < LB
 fix:uw (mgG w gt LB F T++XY X1 Y) W (Mg5 w Y.s gt D dm dd lev N nn nc L lm lc qs)
 bx:BoxO W 135 ((w:Nat)+5) [.slice D dm dd,.slice F.a F.n F.c,.int .i64 0,.int .u64 0,.int .u64 0,.int .u64 0,.int .u64 0]
 bt:BoxO W 91 gt [.slice T.a T.n T.c]
 b4:BoxO W 26 ((w:Nat)+4) [.int .i64 0]
 oa:W.ownsRow w 173 2 (.slice F.a F.n F.c) F.n (bz adds)
 ot:W.ownsRow w 178 3 (.slice T.a T.n T.c) T.n (hcells (q0++q1))
 no:∀g∈mgG w gt LB F T,g∉XY X1 Y
variable {qs:List Tq} {r r2:Loop} {gt LB dm dd nn nc lm lc:Nat} {D N L:Option Addr} {lev:Int} {q0 q1:List Tq} {W W1 W2:World} {F T:Sl} {adds:List (Int×Int)}
theorem MgK.lt (k:MgK w X Y V gt LB r D dm dd lev N nn nc L lm lc q0 W X1 S1 F T adds q1 qs):∀g∈mgG w gt LB F T,(w:Nat)<=g/\g < (W:Nat):=by
 intro g o;have h1:=k.lo;have h2:=k.la.at_.lt
 rcases jk.1 o with rfl|rfl|rfl|rfl|rfl|q|q
 ·have:=k.bx.lt;omega
 ·have:=k.bx.lt;omega
 ·omega
 ·omega
 ·omega
 ·exact k.oa.lt g (pq.1 q)
 ·exact k.ot.lt g (pq.1 q)
theorem MgK.keep (k:MgK w X Y V gt LB r D dm dd lev N nn nc L lm lc q0 W X1 S1 F T adds q1 qs) {G:List Nat} (c:Chg G W W2) (C:∀g∈G,g∈XY X1 Y) (H:Way w X Y V W2 X2 S2) (E:∀g∈XY X2 Y,g∈XY X1 Y\/(W:Nat)<=g):MgK w X Y V gt LB r D dm dd lev N nn nc L lm lc q0 W2 X2 S2 F T adds q1 qs:=by
 have o:∀{g},g∈mgG w gt LB F T->g∉G:=fun z o=>k.no _ z (C _ o);refine⟨H,⟨(c.block _ (by have:=k.la.at_.lt;omega) (o (jk.2 s_))).trans k.la.1,(c.block _ k.la.at_.lt (o (jk.2 s_))).trans k.la.2⟩,k.lo,k.fix.step (c.mono fun g z=>.inl (k_ _ (C g z))) (fun g z=>?_),k.bx.chg c (o (jk.2 s_)),k.bt.chg c (o (jk.2 s_)),k.b4.chg c (o (jk.2 s_)),jv k.oa c (fun g e=>o (jk.2 (by simp[pq.2 e]))),jv k.ot c (fun g e=>o (jk.2 (by simp[pq.2 e]))),fun g z I=>?_⟩
 ·rcases q_.1 z with q|q
  ·exact .inl (x_ _ q)
  ·exact(E g q).imp (k_ _) id
 ·rcases E g I with q|q
  ·exact k.no g z q
  ·have:=(k.lt g z).2
   omega
theorem MgK.below (k:MgK w X Y V gt LB r D dm dd lev N nn nc L lm lc q0 W X1 S1 F T adds q1 qs) (z:Below W W W2):MgK w X Y V gt LB r D dm dd lev N nn nc L lm lc q0 W2 X1 S1 F T adds q1 qs:=
 k.keep (G:=[]) (Chg.of_below z []) (fun g o=>by cases o) (k.way.below z) (fun g o=>.inl o)
theorem MgK.disk (k:MgK w X Y V gt LB r D dm dd lev N nn nc L lm lc q0 W X1 S1 F T adds q1 qs) (e:X2.d=X1.d) (z:SvAt W2 X2 S2 Y V) (c:Chg (XY X1 Y) W W2) (f:∀g∈XY X2 Y,g∈XY X1 Y\/(W:Nat)<=g):MgK w X Y V gt LB r D dm dd lev N nn nc L lm lc q0 W2 X2 S2 F T adds q1 qs:=
 k.keep c (fun g o=>o) ⟨z,e.trans k.way.d,k.way.c.trans c k.way.f,fun g o=>by
  rcases f g o with q|q
  ·exact k.way.f g q
  ·exact .inr (g_ k.way.c.size q)⟩ f
theorem MgK.loop (h:SvAt w X S Y V) (k:MgK w X Y V gt LB r D dm dd lev N nn nc L lm lc q0 W X1 S1 F T adds q1 qs) (c:Chg [LB,LB+1] W W2) (H:dy4 LB r2 W2):MgK w X Y V gt LB r2 D dm dd lev N nn nc L lm lc q0 W2 X1 S1 F T adds q1 qs:=by
 have h1:=k.lo;have z:∀g∈[LB,LB+1],g∈mgG w gt LB F T:=fun g o=>jk.2 (by simp at o;rcases o with q|q<;>simp[q]);have C:=k.la.at_.own k.oa;have E:=k.la.at_.own k.ot;refine⟨Way.scr h k.way (fun g o=>⟨(k.lt g (z g o)).1,k.no g (z g o)⟩) c,H,k.lo,k.fix.step (c.mono fun g o=>.inl (x_ _ (z g o))) (fun g o=>.inl o),k.bx.chg c (by simp;omega),k.bt.chg c (by simp;omega),k.b4.chg c (by simp;omega),jv k.oa c (fun g e=>?_),jv k.ot c (fun g e=>?_),k.no⟩
 all_goals
  intro o;simp only[h_,ar_,or_false]at o
 ·rcases o with rfl|rfl
  ·exact C.1 e
  ·exact C.2 e
 ·rcases o with rfl|rfl
  ·exact E.1 e
  ·exact E.2 e
theorem MgK.addF (h:SvAt w X S Y V) (k:MgK w X Y V gt LB r D dm dd lev N nn nc L lm lc q0 W X1 S1 F T adds q1 qs) {A:Option Addr} {n c:Nat} {I:List (Int×Int)} (ho:W1.ownsRow w 173 2 (.slice A n c) n (bz I)) (o:W.grownBy W1 (Value.slice F.a F.n F.c).ownBlock)
  (hk:(Value.slice A n c).ownBlock=(Value.slice F.a F.n F.c).ownBlock\/(Value.slice A n c).ownBlock=some (W:Nat)):MgK w X Y V gt LB r D dm dd lev N nn nc L lm lc q0 (W1.setCell ⟨(w:Nat)+5,1,none⟩ (.slice A n c)) X1 S1 ⟨A,n,c⟩ T I q1 qs:=by
 have c1:Chg (blk F) W W1:=Chg.qy o fun b e=>pq.2 e;have O:=k.lo;have b1:=gw1 k.oa k.bx (by decide);have b2:=gw1 k.oa k.bt (by decide);have J:=k.bx.chg c1 (fun z=>b1 (pq.1 z));have b3:=gw1 ho J (by decide);have c2:Chg [(w:Nat)+5] W1 (W1.setCell ⟨(w:Nat)+5,1,none⟩ (.slice A n c)):=(Chg.refl _ _).setCell _ (.inl s_);have H:Chg ([(w:Nat)+5] ++blk F) W (W1.setCell ⟨(w:Nat)+5,1,none⟩ (.slice A n c)):=(c1.mono fun g o=>.inl (k_ _ o)).trans c2 fun g o=>.inl (x_ _ o);have z:∀g∈[(w:Nat)+5] ++blk F,g∈mgG w gt LB F T:=fun g o=>jk.2 (by
  rcases q_.1 o with q|q
  ·exact .inr (.inl (c_.1 q))
  ·simp[q])
 have o1:=k.la.at_.own k.oa;have o2:=yy4 k.oa k.ot (by decide);have hn:∀g,g∈blk (⟨A,n,c⟩:Sl)->g∈blk F\/g=(W:Nat):=fun g o=>by
  have e:=pq.1 o
  rcases hk with q|q
  ·exact .inl (pq.2 (q.symm.trans e))
  ·exact .inr (by rw[q]at e;injection e with e;exact e.symm)
 have Q:=k.way.at_.lt;have hG:∀{g},g∈mgG w gt LB ⟨A,n,c⟩ T->g∈mgG w gt LB F T\/g=(W:Nat):=fun o=>by
  rcases jk.1 o with q|q|q|q|q|q|q
  ·exact .inl (jk.2 (.inl q))
  ·exact .inl (jk.2 (.inr (.inl q)))
  ·exact .inl (jk.2 (.inr (.inr (.inl q))))
  ·exact .inl (jk.2 (.inr (.inr (.inr (.inl q)))))
  ·exact .inl (jk.2 (.inr (.inr (.inr (.inr (.inl q))))))
  ·exact(hn _ q).imp (fun q=>jk.2 (.inr (.inr (.inr (.inr (.inr (.inl q))))))) id
  ·exact .inl (jk.2 (.inr (.inr (.inr (.inr (.inr (.inr q)))))))
 have C:∀g,g∉[(w:Nat)+5]->g∉blk F->g∉[(w:Nat)+5] ++blk F:=fun g h1 h2 z=>(q_.1 z).elim h1 h2;have U:=k.la.at_.lt;refine⟨Way.scr h k.way (fun g o=>⟨(k.lt g (z g o)).1,k.no g (z g o)⟩) H,⟨(H.block _ o_ (C _ (by simp;omega) fun z=>o1.1 (pq.1 z))).trans k.la.1,(H.block _ U (C _ (by simp;omega) fun z=>o1.2 (pq.1 z))).trans k.la.2⟩,O,k.fix.step (H.mono fun g o=>.inl (x_ _ (z g o))) (fun g o=>?_),?_,k.bt.chg H (C _ (by simp;omega) fun z=>b2 (pq.1 z)),k.b4.chg H (C _ s_ fun z=>gw1 k.oa k.b4 (by decide) (pq.1 z)),jv ho c2 (fun g e E=>b3 (by rw[e,c_.1 E])),jv k.ot H (fun g e=>C _ (fun E=>gw1 k.ot k.bx (by decide) (by rw[e,c_.1 E])) fun E=>o2 g e (pq.1 E)),fun g o=>?_⟩
 ·rcases q_.1 o with q|q
  ·rcases hG q with q|q
   ·exact .inl (x_ _ q)
   ·exact .inr o_
  ·exact .inl (k_ _ q)
 ·exact J.store 1 (.slice A n c)
 ·rcases hG o with q|q
  ·exact k.no g q
  ·intro z
   have:=Q g z;omega
theorem MgK.tab (k:MgK w X Y V gt LB r D dm dd lev N nn nc L lm lc q0 W X1 S1 F T adds q1 qs) {x:Tq} (z:uw (mgG w gt LB F T++XY X1 Y) W fun W=>TbAt W x.2 x.1.2):MgK w X Y V gt LB r D dm dd lev N nn nc L lm lc q0 W X1 S1 F T adds q1 (qs++[x]):=
 { k with fix:=(k.fix.and z).mono fun E o=>⟨o.1.1,fun p C=>by
  rcases q_.1 C with q|q
  ·exact o.1.2 p q
  ·rw[c_.1 q]
   exact o.2⟩ }
theorem MgK.addT (h:SvAt w X S Y V) (k:MgK w X Y V gt LB r D dm dd lev N nn nc L lm lc q0 W X1 S1 F T adds q1 qs) {A:Option Addr} {n c:Nat} {x:Tq} (U:W1.ownsRow w 178 3 (.slice A n c) n (hcells (q0++(q1++[x])))) (o:W.grownBy W1 (Value.slice T.a T.n T.c).ownBlock)
  (hk:(Value.slice A n c).ownBlock=(Value.slice T.a T.n T.c).ownBlock\/(Value.slice A n c).ownBlock=some (W:Nat)):MgK w X Y V gt LB r D dm dd lev N nn nc L lm lc q0 (W1.setCell gt (.slice A n c)) X1 S1 F ⟨A,n,c⟩ adds (q1++[x]) qs:=by
 have c1:Chg (blk T) W W1:=Chg.qy o fun b e=>pq.2 e;have J:=k.lo;have b1:=gw1 k.ot k.bx (by decide);have b2:=gw1 k.ot k.bt (by decide);have I:=k.bt.chg c1 (fun z=>b2 (pq.1 z));have b3:=gw1 U I (by decide);have c2:Chg [gt] W1 (W1.setCell gt (.slice A n c)):=(Chg.refl _ _).setCell _ (.inl s_);have H:Chg ([gt] ++blk T) W (W1.setCell gt (.slice A n c)):=(c1.mono fun g o=>.inl (k_ _ o)).trans c2 fun g o=>.inl (x_ _ o);have z:∀g∈[gt] ++blk T,g∈mgG w gt LB F T:=fun g o=>jk.2 (by
  rcases q_.1 o with q|q
  ·exact .inr (.inr (.inl (c_.1 q)))
  ·simp[q])
 have o1:=k.la.at_.own k.ot;have o2:=yy4 k.ot k.oa (by decide);have hn:∀g,g∈blk (⟨A,n,c⟩:Sl)->g∈blk T\/g=(W:Nat):=fun g o=>by
  have e:=pq.1 o
  rcases hk with q|q
  ·exact .inl (pq.2 (q.symm.trans e))
  ·exact .inr (by rw[q]at e;injection e with e;exact e.symm)
 have O:=k.way.at_.lt;have hG:∀{g},g∈mgG w gt LB F ⟨A,n,c⟩->g∈mgG w gt LB F T\/g=(W:Nat):=fun o=>by
  rcases jk.1 o with q|q|q|q|q|q|q
  ·exact .inl (jk.2 (.inl q))
  ·exact .inl (jk.2 (.inr (.inl q)))
  ·exact .inl (jk.2 (.inr (.inr (.inl q))))
  ·exact .inl (jk.2 (.inr (.inr (.inr (.inl q)))))
  ·exact .inl (jk.2 (.inr (.inr (.inr (.inr (.inl q))))))
  ·exact .inl (jk.2 (.inr (.inr (.inr (.inr (.inr (.inl q)))))))
  ·exact(hn _ q).imp (fun q=>jk.2 (.inr (.inr (.inr (.inr (.inr (.inr q))))))) id
 have C:∀g,g∉[gt]->g∉blk T->g∉[gt] ++blk T:=fun g h1 h2 z=>(q_.1 z).elim h1 h2;have Q:=k.la.at_.lt;refine⟨Way.scr h k.way (fun g o=>⟨(k.lt g (z g o)).1,k.no g (z g o)⟩) H,⟨(H.block _ o_ (C _ (by simp;omega) fun z=>o1.1 (pq.1 z))).trans k.la.1,(H.block _ Q (C _ (by simp;omega) fun z=>o1.2 (pq.1 z))).trans k.la.2⟩,J,k.fix.step (H.mono fun g o=>.inl (x_ _ (z g o))) (fun g o=>?_),k.bx.chg H (C _ (by simp;omega) fun z=>b1 (pq.1 z)),I.store 0 (.slice A n c),k.b4.chg H (C _ (by simp;omega) fun z=>gw1 k.ot k.b4 (by decide) (pq.1 z)),jv k.oa H (fun g e=>C _ (fun E=>gw1 k.oa k.bt (by decide) (by rw[e,c_.1 E])) fun E=>o2 g e (pq.1 E)),jv U c2 (fun g e E=>b3 (by rw[e,c_.1 E])),fun g o=>?_⟩
 ·rcases q_.1 o with q|q
  ·rcases hG q with q|q
   ·exact .inl (x_ _ q)
   ·exact .inr o_
  ·exact .inl (k_ _ q)
 ·rcases hG o with q|q
  ·exact k.no g q
  ·intro z
   have:=O g z;omega
structure MgE (w:World) (X:Dw) (Y:Yw) (LB:Nat) (D:Option Addr) (dm dd:Nat) (W:World) (S1:Sd) (V1:Sv) (X1:Dw) (Y1:Yw):Prop where
 d:X1.d=X.d
 s:Y1.s=Y.s
 at_:SvAt W X1 S1 Y1 V1
 c:Chg (XY X Y) w W
 f:∀g∈XY X1 Y1,g∈XY X Y\/(w:Nat)<=g
 no:(w:Nat)+4∉XY X1 Y1/\LB∉XY X1 Y1
 lb:(w:Nat)+4 < LB
 tb:uw (((w:Nat)+4)::LB::XY X1 Y1) W fun W=>iv1 W Y1.T Y1.q V1.tabs
 st:uw (((w:Nat)+4)::LB::XY X1 Y1) W fun W=>Its 0 W Y1.A.a Y1.A.n Y1.A.c V1.st
 pb:∀j,j < (bz V1.M.v.files).length->∀a,Y1.P.a=some a->a.block≠(w:Nat)+4/\a.block≠LB
 bx:uw (XY X1 Y1) W fun W=>BoxO W 55 (w:Nat) [Y.s]/\BoxO W 73 ((w:Nat)+1) [.slice D dm dd]/\BoxO W 26 ((w:Nat)+4) [.int .i64 0]/\W.heap[LB]?=some (.deferred (some []))
theorem MgE.below (k:MgE w X Y LB D dm dd W S1 V1 X1 Y1) (o:Below W W W2):MgE w X Y LB D dm dd W2 S1 V1 X1 Y1:=
 ⟨k.d,k.s,k.at_.below o,k.c.trans (Chg.of_below o []) (fun g z=>by cases z),k.f,k.no,k.lb,k.tb.below o,k.st.below o,k.pb,k.bx.below o⟩
theorem MgE.disk (k:MgE w X Y LB D dm dd W S1 V1 X1 Y1) (I:UpdM X1 W W2 S2):∃X2,MgE w X Y LB D dm dd W2 S2 V1 X2 Y1:=by
 obtain⟨X2,e,h1,c1,f1⟩:=k.at_.disk I;have C:=k.bx.now;have J:=C.2.2.1.lt;have O:=(E_.1 C.2.2.2).1;have E:∀g∈((w:Nat)+4)::LB::XY X2 Y1,g∈((w:Nat)+4)::LB::XY X1 Y1\/(W:Nat)<=g:=fun g o=>by
  rcases h_.1 o with q|q
  ·exact .inl (by rw[q];exact p_)
  ·rcases h_.1 q with q|q
   ·exact .inl (by rw[q];exact f_ _ p_)
   ·exact(f1 g q).imp (fun q=>f_ _ (f_ _ q)) id
 have H:Chg (((w:Nat)+4)::LB::XY X1 Y1) W W2:=c1.mono fun g o=>.inl (f_ _ (f_ _ o));exact⟨X2,e.trans k.d,k.s,h1,k.c.trans c1 k.f,fun g o=>by
  rcases f1 g o with q|q
  ·exact k.f g q
  ·exact .inr (g_ k.c.size q),⟨fun z=>(f1 _ z).elim k.no.1 o_,fun z=>(f1 _ z).elim k.no.2 o_⟩,k.lb,k.tb.step H E,k.st.step H E,k.pb,k.bx.step c1 f1⟩
theorem MgE.post (Q:SvAt w X S Y V) (k:MgE w X Y LB D dm dd W S1 V1 X1 Y1) (v:Value):wy1 X Y w ((W.setCell ⟨(w:Nat)+4,0,none⟩ v).putObj LB (.deferred none)) S1 V1/\((W.setCell ⟨(w:Nat)+4,0,none⟩ v).putObj LB (.deferred none)).cell? ⟨(w:Nat)+4,0,none⟩=some v:=by
 have O:=k.bx.now;have l5:=(E_.1 O.2.2.2).1;have U:=k.lb;have c1:Chg [(w:Nat)+4,LB] W (W.setCell ⟨(w:Nat)+4,0,none⟩ v):=(Chg.refl _ _).setCell _ (.inl s_);have c2:Chg [(w:Nat)+4,LB] (W.setCell ⟨(w:Nat)+4,0,none⟩ v) ((W.setCell ⟨(w:Nat)+4,0,none⟩ v).putObj LB (.deferred none)):=⟨rfl,rfl,rfl,by simp,fun g _ o=>O_ (fun e=>o (by simp[e]))⟩;have z:=c1.trans c2 (fun g o=>.inl o);have I:∀g∈[(w:Nat)+4,LB],g∉XY X1 Y1/\NG<=g/\(w:Nat)<=g:=fun g o=>by
  have:=Q.dm.env.base
  rcases h_.1 o with q|q
  ·rw[q]
   exact⟨k.no.1,o_,o_⟩
  ·rw[c_.1 q]
   exact⟨k.no.2,o_,o_⟩
 have C:∀g∈Y1.foot,g∉[(w:Nat)+4,LB]:=fun g h1 h2=>(I g h2).1 (k_ _ h1);have a0:∀{g},g∈((w:Nat)+4)::LB::XY X1 Y1\/(W:Nat)<=g->g∈((w:Nat)+4)::LB::XY X1 Y1\/(W:Nat)<=g:=id;have H:Chg (((w:Nat)+4)::LB::XY X1 Y1) W ((W.setCell ⟨(w:Nat)+4,0,none⟩ v).putObj LB (.deferred none)):=z.mono fun g o=>.inl (by
  rcases h_.1 o with q|q
  ·rw[q];exact p_
  ·rw[c_.1 q];exact f_ _ p_)
 have E:∀g∈XY X1 Y1,g∈((w:Nat)+4)::LB::XY X1 Y1\/(W:Nat)<=g:=fun g o=>.inl (f_ _ (f_ _ o));have h:=k.at_;refine⟨⟨X1,Y1,k.d,k.s,⟨h.dm.chg z (fun g o=>⟨fun J=>(I g o).1 (x_ _ J),(I g o).2.1⟩),h.box.chg z (C _ (Yw.aj.2 (.inl rfl))),h.man.chg z (C _ (Yw.aj.2 (.inr (.inl rfl)))),⟨(nz z h.row.row l_ (fun j hj a ha J=>?_)).up z.size,h.row.nc,h.row.cm,h.row.nb,h.row.away⟩,h.pout,h.log.chg z (C _ (Yw.aj.2 (.inr (.inr (.inl rfl))))),h.mem.chg z (fun g o=>C g (Yw.aj.2 ?_)),h.its,k.tb.step H E,k.st.step H E,h.apart,h.ng⟩,k.c.trans z (fun g o=>.inr (I g o).2.2),k.f⟩,?_⟩
 ·have:=k.pb j hj a ha
  simp only[h_,ar_,or_false]at J;omega
 ·rcases h_.1 o with rfl|o
  ·exact .inr (.inr (.inr (.inl rfl)))
  ·exact .inr (.inr (.inr (.inr o)))
 ·exact(X_ (O_ (by simp;omega))).trans (aV_ W ⟨(w:Nat)+4,0,none⟩ v (O.2.2.1.cell 0))
theorem ty1 {P:Program} {F:Fence} {nF:Nat} {ops:Array Oper} {rest:List Oper} {o:Oper} {a:Act} {w:World} {Q:Exit->Act->World->Prop} (H:o.guard=none) (s x:Operand) (t:TypeId)
  (ho:o.op=.call { callee:=.builtin .append,args:=#[s,x],argTypes:=#[t,t] })
  (base:Nat) (e:TypeId) (i:TypeInfo) (z:Value) (size bytes:Nat) (ht:P.underlying t=some (.slice e)) (hi:P.info? e=some i) (hz:i.zero=some z)
  (I:i.size=size) (U:i.bytes=bytes) (a0:z.cells.size=size) (a1:0 < size) (J:base<=(w:Nat)) (v:Value) (n:Nat) (xs:List Value) (hs:a.eval s=v) (O:w.ownsRow base e size v n xs)
  (B:Nat) (A:Option Addr) (m c:Nat) (news:List Value) (hx:a.eval x=.slice A m c) (hr:Row B w A m size news) (h1:∀u∈news,u.oneCell'=true)
  (N:Nat) (X:List Value) (hN:n+m=N) (hX:xs++news=X) (a2:N<=maxLen) (C:N *bytes<=140737488355328)
  (h:∀A' c' w',w'.ownsRow base e size (.slice A' N c') N X->w.grownBy w' v.ownBlock->N<=c'->c'<=maxLen->((Value.slice A' N c').ownBlock=v.ownBlock\/(Value.slice A' N c').ownBlock=some (w:Nat))->wpListIn F nF P ops Q rest (a.put o.dst (.slice A' N c')) w'):
  wpListIn F nF P ops Q (o::rest) a w:=by
 refine wpListIn_plain H fun K hK=>?_;have:=oj1 (F:=F) (nF:=nF) (ops:=ops) (Q:=Q) (E:=True) (K:=K) H s x t ho base e i z size bytes ht hi hz I U a0 a1 J v n xs hs O B A m c news hx hr h1 N X hN hX a2 C fun A' c' w' h2 h3 h4 h5 h6=>hK _ _ (h A' c' w' h2 h3 h4 h5 h6)
 rwa [if_pos (by simp[Region.wanted,H])]at this
theorem xw4 {m len B:Nat} {w:World} {p:Addr} {l:List It} (z:Row B w (some p) len 5 (itc l)) (x:Ck m len):Row B w (some (p.add (x.1 *m *5))) x.len 5 (itc (Ck.of l x)):=by
 have C:=x.2;have o:x.1 *m+x.len<=len:=by unfold Ck.len;omega
 have h2:=z.cut (k:=x.1 *m) (m:=x.1 *m+x.len) (A':=some (p.add (x.1 *m *5))) o_ o (fun _=>rfl);rw[show x.1 *m+x.len - x.1 *m=x.len from by omega]at h2;rw[show itc (Ck.of l x)=((itc l).drop (x.1 *m *5)).take (x.len *5) from by unfold Ck.of;rw[ex1,qk1];exact sx4 l (x.1 *m) m z.yw];exact h2
end
section
attribute [local go_sem] Oper.semAt_some
variable {w w1 w2:World} {X X1 X2:Dw} {S S1 S2:Sd} {Y Y1 Y2:Yw} {V V1 V2:Sv}
theorem St.pq2:∀(l:List Int) (S:Sd),(St.drops l S).load<=S.load+l.length
 |[],_=>B_ _
 |n::l,S=>g_ (St.pq2 l _) (by have:=Sd.bz1 S (Mn.name Mn.kTab n);rw[r_];omega)
def MgD (w:World) (X:Dw) (Y:Yw) (LB:Nat) (D:Option Addr) (dm dd:Nat) (inn:List Int) (Tr:Sd×Sv×Nat) (Y2:Yw) (j:Nat) (wr:World):Prop:=∃S3 X3,S3=(if Tr.2.2=0 then St.drops (inn.take j) Tr.1 else Tr.1)/\MgE w X Y LB D dm dd wr S3 Tr.2.1 X3 Y2
def NoP (Q:Exit->Act->World->Prop):Exit->Act->World->Prop
 |.panic _,_,_=>False
 |e,a,w=>Q e a w
theorem bx6 {P:Program} {c:Code} {Q:Exit->Act->World->Prop} {a:Act} {w:World} (h:c.wp P (NoP Q) a w):c.wp P Q a w:=Code.wp_mono (fun e a w q=>by cases e<;>first|exact q|exact q.elim) h
theorem yy5 (w:World) (s:Nat) (D:Option Addr) (dm dd:Nat) (lev:Int) (N:Option Addr) (nn nc:Nat) (W:World) (o:W=((((((w.alloc (.cells #[s] 55)).alloc (.cells #[.slice D dm dd] 73)).alloc (.cells #[lev] 3)).alloc (.cells #[.slice N nn nc] 34)).alloc (.cells #[.int .i64 0] 26)).alloc (.cells #[.slice D dm dd,.slice none 0 0,.int .i64 0,.int .u64 0,.int .u64 0,.int .u64 0,.int .u64 0] 135))):
  (BoxO W 55 (w:Nat) [s]/\BoxO W 73 ((w:Nat)+1) [.slice D dm dd]/\BoxO W 3 ((w:Nat)+2) [lev]/\BoxO W 34 ((w:Nat)+3) [.slice N nn nc]/\BoxO W 26 ((w:Nat)+4) [.int .i64 0]/\
   BoxO W 135 ((w:Nat)+5) [.slice D dm dd,.slice none 0 0,.int .i64 0,.int .u64 0,.int .u64 0,.int .u64 0,.int .u64 0])/\(W:Nat)=(w:Nat)+6/\Below w w W:=by
 subst o;refine⟨⟨?_,?_,?_,?_,?_,?_⟩,by simp,?_⟩
 ·exact(((((BoxO.new w _ _).alloc _).alloc _).alloc _).alloc _).alloc _
 ·have h:=((((BoxO.new (w.alloc (.cells #[s] 55)) #[.slice D dm dd] 73).alloc (.cells #[lev] 3)).alloc (.cells #[.slice N nn nc] 34)).alloc (.cells #[.int .i64 0] 26)).alloc (.cells #[.slice D dm dd,.slice none 0 0,.int .i64 0,.int .u64 0,.int .u64 0,.int .u64 0,.int .u64 0] 135)
  simpa using h
 ·have h:=(((BoxO.new ((w.alloc (.cells #[s] 55)).alloc (.cells #[.slice D dm dd] 73)) #[lev] 3).alloc (.cells #[.slice N nn nc] 34)).alloc (.cells #[.int .i64 0] 26)).alloc (.cells #[.slice D dm dd,.slice none 0 0,.int .i64 0,.int .u64 0,.int .u64 0,.int .u64 0,.int .u64 0] 135)
  simpa using h
 ·have h:=((BoxO.new (((w.alloc (.cells #[s] 55)).alloc (.cells #[.slice D dm dd] 73)).alloc (.cells #[lev] 3)) #[.slice N nn nc] 34).alloc (.cells #[.int .i64 0] 26)).alloc (.cells #[.slice D dm dd,.slice none 0 0,.int .i64 0,.int .u64 0,.int .u64 0,.int .u64 0,.int .u64 0] 135)
  simpa using h
 ·have h:=(BoxO.new ((((w.alloc (.cells #[s] 55)).alloc (.cells #[.slice D dm dd] 73)).alloc (.cells #[lev] 3)).alloc (.cells #[.slice N nn nc] 34)) #[.int .i64 0] 26).alloc (.cells #[.slice D dm dd,.slice none 0 0,.int .i64 0,.int .u64 0,.int .u64 0,.int .u64 0,.int .u64 0] 135)
  simpa using h
 ·have h:=BoxO.new (((((w.alloc (.cells #[s] 55)).alloc (.cells #[.slice D dm dd] 73)).alloc (.cells #[lev] 3)).alloc (.cells #[.slice N nn nc] 34)).alloc (.cells #[.int .i64 0] 26)) #[.slice D dm dd,.slice none 0 0,.int .i64 0,.int .u64 0,.int .u64 0,.int .u64 0,.int .u64 0] 135
  simpa using h
 ·exact((((((Below.refl _ w).alloc l_ _).alloc s_ _).alloc (by simp;omega) _).alloc (by simp;omega) _).alloc (by simp;omega) _).alloc (by simp;omega) _
theorem kz32 {P S a oi v} (h:Hv P S a oi v:=by intro w a7;(obtain⟨g0,g1⟩:=t3.out _ a7);go_simp;try (with_reducible rfl)):Hv P S a oi v:=h
theorem fj4 (h:SvAt w X S Y V) (D:Option Addr) (dm dd:Nat) (inn:List Int) (lev:Int) (L:Option Addr) (lm lc:Nat) (l:List It) (N:Option Addr) (nn nc:Nat) (next:List It)
  (J':dm<=1000) (t4:Row w w D dm 1 (pz inn)) (o4:∀a,D=some a->a.block∉XY X Y/\a.block < (w:Nat)) (E0:∀n∈inn,0<=n/\n<=2147483648)
  (E1:lm<=100000) (E2:lm<=lc) (g':Row w w L lm 5 (itc l)) (E3:∀a,L=some a->a.block∉XY X Y) (t6:∀x∈l,x.fit) (E4:∀r∈Tb.cut 200 l.length l,Tb.good r=true)
  (t8:uw (XY X Y) w fun w=>Its 0 w N nn nc next) (E5:V.M.v.files.length<=40) (K0:V.tabs.length<=1000) (E6:V.M.count<=1000000000) (E7:V.M.name.length<=1000) (K1:S.load<=100000000000):
  Calls prog 56 #[.pointer (some Y.s),.slice D dm dd,.int .i64 lev,.slice L lm lc,.slice N nn nc] w (gz1 X Y w (St.merge S V inn lev l next)):=by
 obtain⟨R,hR⟩:=n_ (St.merge S V inn lev l next);rw[<-hR];have h':=g'.yw;have m8:=h.lt;obtain⟨W,hW⟩:=n_ (((((((w.alloc (.cells #[.pointer (some Y.s)] 55)).alloc (.cells #[.slice D dm dd] 73)).alloc (.cells #[.int .i64 lev] 3)).alloc (.cells #[.slice N nn nc] 34)).alloc (.cells #[.int .i64 0] 26)).alloc (.cells #[.slice D dm dd,.slice none 0 0,.int .i64 0,.int .u64 0,.int .u64 0,.int .u64 0,.int .u64 0] 135)));obtain⟨⟨b0,b1,b2,b3,b4,b5⟩,t9,f0⟩:=yy5 w Y.s D dm dd lev N nn nc W hW;have k1:Way w X Y V W X S:=⟨h.below f0,rfl,Chg.of_below f0 _,fun _ C=>.inl C⟩;have t0:=b0.cell 0;have t1:=b1.cell 0;have c4:=k1.at_.box.cell 4;simp only[Yw.cells,gE0,gE1]at t0 t1 c4;obtain⟨hq,m',E9,E',l6,F0⟩:=h.tabs.now;have d2:=h.tlen;have u2:=qj2 Y.T.a Y.T.n Y.T.c Y.q W o_ l6 ((m'.below f0).up f0.size);have u3:=H_ u2;have HH:=H_ h;have F1:=H_ k1;have HB:=H_ (d_ b0 (d_ b1 (d_ b2 (d_ b3 (d_ b4 b5)))));have HW:=H_ (d_ t9 (d_ f0 m8));have HR:=H_ hR;have i3:=H_ t4;have u4:=H_ g';have F2:=H_ t8;have d3:=H_ h';have HQ:=H_ hq;have l7:=H_ d2;rw[hW]at t0 t1 c4;clear u2 h k1 b0 b1 b2 b3 b4 b5 t9 f0 m8 hR t4 g' t8 h' hq d2 m' E9 E' l6 F0;refine(callsIn_wide (n:=6)).1 ?_;refine callsIn_of_wp_marks func56 rfl trivial ?_ rfl;simp only[ntmps56,az_,r_,R_,Nat.reduceAdd,Nat.reduceSub,a0_,a1_,bf_,a7_,D_,U_]
 gi_wp2_with fail
 rw[<-hW];clear t0 t1 c4 hW;refine⟨trivial,?_⟩
 with_reducible refine(callsIn_wide.2 u3.out).mono ?_
 rintro e w2 ⟨A2,c2,rfl,l8,d4⟩;have i4:∀a,A2=some a->(W:Nat)<=a.block:=(aq2 l8).2.2;have u6:=cj5 123 (fun _ _=>rfl) #[.pointer (some ⟨(w:Nat)+1,0,none⟩)] (fun x=>decide (x.1.1.2∈inn)) W A2 Y.T.n c2 c2 Y.q w2 (by have:=l7.out;omega) (aq2 l8).1 d4.size l8 (fun x I hc=>by
  have c3:=zw2 hc;have d':=HW.1;have u7:=(i3.below (HW.2.1.trans (d4.mono HW.2.1.size))).up (g_ HW.2.1.size d4.size);refine dv4 x inn D dm dd ((w:Nat)+1) I o_ (((HB.2.1.below d4).chg c3 (gz2 fun a ha=>by have:=i4 a ha;omega)).cell 0) ((nz c3 u7 l_ (fun j hj a ha o=>?_)).up c3.size);obtain⟨a',e,q1,_⟩:=i3.cell j hj;rw[ha]at e;injection e with e;subst e;have:=gz2 (g:=a.block) (A:=A2) (fun a2 F3=>by have:=i4 a2 F3;omega);exact this o)
 have u':=H_ u6;have f2:=H_ d4;clear u6 l8 d4 i4 u3
 gi_wp2_with fail
 refine⟨trivial,?_⟩
 with_reducible refine(callsIn_wide.2 u'.out).mono ?_
 rintro e I ⟨k,A3,rfl,hk,f3,v3⟩;have K3:=H_ hk;have H3:=H_ (d_ f3 (f2.trans v3));clear hk f3 v3 u' f2
 gi_wp2_with (refine⟨trivial,?_⟩;gi_at_call 65;refine(ty2 Fence.wide 5 trivial rfl L lm lc 200 o_ _).mono ?_;rintro e w' ⟨rfl,rfl⟩)
 obtain⟨p,hp⟩:∃p,0 < lm->L=some p:=by
  cases L with
  |none=>
   refine⟨⟨0,0,none⟩,fun h=>?_⟩;obtain⟨a,_,e,_⟩:=u4.it h
   cases e
  |some p=>exact⟨p,fun _=>rfl⟩
 have v4:=H3.2.size;have d':=HW.1;have bt:=BoxO.new I #[.slice A3 k c2] 91;have bS:=BoxO.new (I.alloc (.cells #[.slice A3 k c2] 91)) #[.slice L lm lc] 34;have bM:=BoxO.new ((I.alloc (.cells #[.slice A3 k c2] 91)).alloc (.cells #[.slice L lm lc] 34)) #[.int .i64 ((200:Nat):Int)] 3;simp only[F_]at bS bM;have e0:=((b_ I (.cells #[.slice A3 k c2] 91)).alloc s_ (.cells #[.slice L lm lc] 34)).alloc (by simp;omega) (.cells #[.int .i64 ((200:Nat):Int)] 3);have l9:=(bt.alloc (.cells #[.slice L lm lc] 34)).alloc (.cells #[.int .i64 ((200:Nat):Int)] 3);have i5:=bS.alloc (.cells #[.int .i64 ((200:Nat):Int)] 3);have i6:=bq3 Fence.wide 5 trivial rfl o_ ((I:Nat)+1) ((I:Nat)+1+1) (fun W O=>O.heap[(I:Nat)+1]?=W.heap[(I:Nat)+1]?/\O.heap[(I:Nat)+1+1]?=W.heap[(I:Nat)+1+1]?) (fun W O h=>⟨X_ h.1,X_ h.2⟩) p L lm lc 200 hp l d3.out o_ o_ E1 E2 (N:=lm) (fun k hk=>o_) (((I.alloc (.cells #[.slice A3 k c2] 91)).alloc (.cells #[.slice L lm lc] 34)).alloc (.cells #[.int .i64 ((200:Nat):Int)] 3)) s_ s_ (i5.cell 0) (bM.cell 0);rw[show ((200:Nat):Int)=(200:Int) from rfl]at i6 e0 l9 i5 bM;obtain⟨H,o6⟩:=n_ ((((I.alloc (.cells #[.slice A3 k c2] 91)).alloc (.cells #[.slice L lm lc] 34)).alloc (.cells #[.int .i64 200] 3)));have e2:(H:Nat)=(I:Nat)+3:=by rw[o6];simp
 rw[<-o6]at i6 e0 l9 i5 bM ⊢;obtain⟨q0,o7⟩:=n_ (Y.q.filter fun x=>!decide (x.1.1.2∈inn));have f3:=H3.1;rw[<-o7]at f3;have v5:Below w w H:=HW.2.1.trans ((az H3.2 e0).mono HW.2.1.size);have i7:∀O r,Below H H O->dy4 H r O->MgK w X Y V I H r D dm dd lev N nn nc L lm lc q0 O X S ⟨none,0,0⟩ ⟨A3,k,c2⟩ [] [] []:=by
  intro O r hb d5;have v6:=F1.below ((az H3.2 e0).trans (hb.mono o_));have f5:=own_below (own_below f3 e0) hb;have hx:=HW.2.2;have hn:∀g,(w:Nat)<=g->g < (w:Nat)+4\/g=(I:Nat)+1\/g=(I:Nat)+2->g∉blk ⟨A3,k,c2⟩->g∉mgG w I H ⟨none,0,0⟩ ⟨A3,k,c2⟩++XY X Y:=fun g h1 h2 h3 o=>by
   rcases q_.1 o with q|q
   ·rcases jk.1 q with q|q|q|q|q|q|q
    ·omega
    ·omega
    ·omega
    ·omega
    ·omega
    ·simp[blk,Value.ownBlock]at q
    ·exact h3 q
   ·have:=hx g q
    omega
  have Q:Below W W O:=(az H3.2 e0).trans (hb.mono o_);obtain⟨a0,a1,a2,a3,a4,a5⟩:=HB.out;have F5:=l9.below hb;have v8:=i5.below hb;have v9:=bM.below hb;have F6:=a5.below Q;have E:∀{e:TypeId} {g:Nat} {ys:List Value},BoxO O e g ys->178≠e->g∉blk ⟨A3,k,c2⟩:=fun F8 F9 o=>gw1 f5 F8 F9 (pq.1 o);refine⟨v6,d5,⟨o_,o_⟩,fun K6 c=>⟨⟨(a0.below Q).chg c (hn _ o_ o_ (E (a0.below Q) (by decide))),(a1.below Q).chg c (hn _ o_ o_ (E (a1.below Q) (by decide))),(a2.below Q).chg c (hn _ o_ o_ (E (a2.below Q) (by decide))),(a3.below Q).chg c (hn _ o_ o_ (E (a3.below Q) (by decide))),v8.chg c (hn _ o_ o_ (E v8 (by decide))),v9.chg c (hn _ o_ o_ (E v9 (by decide)))⟩,fun p hp=>by cases hp⟩,F6,F5,a4.below Q,G_ _ _ _ _,by rw[aM_];exact own_base f5 o_,fun g C o=>?_⟩;have K7:(w:Nat)<=g:=by
   rcases jk.1 C with q|q|q|q|q|q|q
   ·omega
   ·omega
   ·omega
   ·omega
   ·omega
   ·simp[blk,Value.ownBlock]at q
   ·have:=(f5.lt g (pq.1 q)).1
    omega
  have:=hx g o;omega
 have o8:=H_ i7;have HP:=H_ hp;have i8:=H_ e2;have i9:=H_ v5;have o9:=H_ o7;have l':=H_ (d_ d' v4);clear i7 hp e2 v5 o7 d' v4 f3 bt bS bM l9 i5 e0 o6 H3;rename_i Kq v';refine iy1 (α:=Ck 200 lm) (n:=6) (encs:=fun x=>#[Ck.val p x]) rfl o_ (gf:=132) (lb:=#[.pointer (some ⟨(I:Nat)+1,0,none⟩),.pointer (some ⟨(I:Nat)+1+1,0,none⟩)]) rfl trivial (enters_of func132 (by kernel_rfl) rfl) i6 (fun h k=>⟨k.1.trans h.1,k.2.trans h.2⟩) ?hKb b0_ (fun _=>rfl)
  (fun pre W=>(pre=[]/\W=H)\/∃r S1 X1 F T q1,MgK w X Y V I H r D dm dd lev N nn nc L lm lc q0 W X1 S1 F T (q1.map (·.1.1)) q1 q1/\pre.map (Ck.of l)=(Tb.cut 200 lm l).take pre.length/\St.writes lev (pre.map (Ck.of l)) S []=(S1,q1.map (·.1),0)/\S1.load<=S.load+3 *pre.length/\q1.length=pre.length)
  (fun c pre W=>c=.ret/\∃S1 X1 er,er≠0/\R=(S1,V,er)/\Way w X Y V W X1 S1/\BoxO W 26 ((w:Nat)+4) [.int .i64 ((er:Nat):Int)]/\((H:Nat)∉XY X1 Y/\(H:Nat)+1∉XY X1 Y)/\dw1 H W) ?hI ?hIx (.inl ⟨rfl,rfl⟩)
  (fun x=>{ tmps:=#[.pointer (some Y.s),.slice D dm dd,.int .i64 lev,.slice L lm lc,.slice N nn nc,.pointer (some (w:Nat)),.pointer (some ⟨(w:Nat)+1,0,none⟩),.pointer (some ⟨(w:Nat)+1+1,0,none⟩),undef,.pointer (some ⟨(w:Nat)+1+1+1,0,none⟩),.pointer (some ⟨(w:Nat)+1+1+1+1,0,none⟩),.pointer (some ⟨(w:Nat)+1+1+1+1+1,0,none⟩),.pointer (some (I:Nat)),Ck.val p x,undef,undef,undef,undef,undef,.slice D dm dd,.agg #[.slice D dm dd,.slice none 0 0,.int .i64 0,.int .u64 0,.int .u64 0,.int .u64 0,.int .u64 0],.pointer (some Y.s),.pointer (some Y.s),.pointer (some ⟨Y.s,4,none⟩),.slice Y.T.a Y.T.n Y.T.c,.slice A2 Y.T.n c2,.func (.func 123) #[] #[.pointer (some ⟨(w:Nat)+1,0,none⟩)],.slice A3 k c2,.slice L lm lc,.func (.func 132) #[] #[.pointer (some ⟨(I:Nat)+1,0,none⟩),.pointer (some ⟨(I:Nat)+1+1,0,none⟩)],Ck.val p x,undef,undef,undef,undef,undef,undef,undef,undef,undef,undef,undef,undef,undef,undef,undef,undef,undef,undef,undef,undef,undef,undef,undef,undef,undef,undef,undef,undef,undef,undef,undef,undef,undef,undef,undef,undef,undef,undef,undef,undef,undef,undef],defers:=[] }) ?assig ?body ?done ?stop
 case hKb=>
  have e2:=i8.out;intro W l2 o' hl;exact⟨O_ o_,O_ o_⟩
 case hI=>
  rintro pre W O (⟨rfl,rfl⟩|⟨r,S1,X1,F,T,q1,h2,h3⟩) hc ⟨w5,r2,w7⟩
  ·exact .inr ⟨r2,S,X,⟨none,0,0⟩,⟨A3,k,c2⟩,[],o8.out _ _ (hc.below l_ (fun g C=>by simp at C;omega)) ⟨w5,w7⟩,by simp,by simp[St.writes],o_,rfl⟩
  ·exact .inr ⟨r2,S1,X1,F,T,q1,h2.loop HH.out hc ⟨w5,w7⟩,h3⟩
 case hIx=>
  rintro c2 pre W O ⟨h1,S1,X1,er,h2,h3,h4,h5,h6,h7⟩ hc hl;have h8:=h7.box h5;have h9:=i9.size;refine⟨h1,S1,X1,er,h2,h3,Way.scr HH.out h4 (fun g C=>?_) hc,h5.chg hc (by simp;omega),h6,hl⟩
  rcases h_.1 C with rfl|C
  ·exact⟨h9,h6.1⟩
  ·rw[c_.1 C]
   exact⟨o_,h6.2⟩
 case assig=>
  intro l2 x W K hK
  gi_wp2
  exact hK
 case body=>
  rintro l2 pre x W6 ⟨n0,r0,x0⟩ hI i' hx;have G0:∃r S1 X1 F T q1,MgK w X Y V I H r D dm dd lev N nn nc L lm lc q0 W6 X1 S1 F T (q1.map (·.1.1)) q1 q1/\pre.map (Ck.of l)=(Tb.cut 200 lm l).take pre.length/\St.writes lev (pre.map (Ck.of l)) S []=(S1,q1.map (·.1),0)/\S1.load<=S.load+3 *pre.length/\q1.length=pre.length:=by
   rcases hI with ⟨_,rfl⟩|h
   ·exact absurd (E_.1 n0).1 o_
   ·exact h
  obtain⟨r,S1,X1,F,T,q1,o,m0,e3,m1,m2⟩:=G0;obtain⟨⟨b0,b1,b2,b3,bS,bM⟩,_⟩:=o.fix.now;have t5:=b0.c0;have t7:W6.cell? ⟨(w:Nat)+1+1,0,none⟩=some (.int .i64 lev):=b2.cell 0;have x2:=x.2;have f6:x.len<=200:=by unfold Ck.len;omega
  have hL:L=some p:=HP.out o_;have f7:Row W6 W6 (some p) lm 5 (itc l):=by rw[<-hL];exact(nz o.way.c u4.out l_ (fun j _ a ha=>E3 a ha)).up o.way.c.size
  have x3:=xw4 (m:=200) f7 x;have hcut:=lw5 (m:=200) o_ d3.out hx m0;have x4:=qq3 (m:=200) o_ lm l (by rw[d3.out];exact B_ _) x.1 (by rw[d3.out];exact x2);have x5:Tb.good (Ck.of l x)=true:=E4 _ (by rw[d3.out];exact u_ x4);have j0:=pk2 o.way.at_ (some (p.add (x.1 *200 *5))) x.len x.len (Ck.of l x) o_ l_ x3 (fun y hy=>t6 y (cd_ (a2_ hy))) x5 lev o_;obtain⟨n,hn⟩:=n_ (St.number S1);obtain⟨a,ha⟩:=n_ (St.write S1 (Ck.of l x));have p6:a.1.load<=S1.load+3:=by rw[ha];exact cq1 S1 (Ck.of l x)
  have p7:a.2≠0->R=(a.1,V,a.2):=fun he=>by
   rw[HR.out,ha];rw[ha]at he;refine St.bj4 (pre:=pre.map (Ck.of l)) ?_ e3 he;rw[d3.out];simpa using hcut
  have p8:a.2=0->St.writes lev ((pre++[x]).map (Ck.of l)) S []=(a.1,(q1.map (·.1))++[((lev,n),Tb.rows (Ck.of l x))],0):=fun he=>by
   rw[ha]at he;rw[aK_,St.py1,e3,if_neg s_,ha,hn];simp only[al_,bc_,St.writes,if_neg (show ¬(St.write S1 (Ck.of l x)).2≠0 from fun h=>h he)]
  rw[<-ha,<-hn]at j0;obtain⟨S8,b7⟩:=a;unfold gj3 at j0;simp only at j0 p6 p7 p8;rw[show Ck.val p x=.slice (some (p.add (x.1 *200 *5))) x.len x.len from rfl];have p9:=H_ j0;have HM:=H_ o;have p':=H_ p7;have q2:=H_ p8;have x6:=H_ hcut;have m3:=H_ (d_ m1 (d_ m2 p6));have L0:=H_ f6;clear j0 p7 p8 ha hn hcut m0 e3 m1 m2 p6 o f7 x3 x4 x5 b0 b1 b2 b3 bS bM hI n0 x0 i6 hx x2 f6 hL
  gi_wp2_with fail
  refine⟨trivial,?_⟩
  with_reducible refine(CallsIn.inRound l2 (callsIn_wide.2 p9.out)).mono ?_
  rintro e w6 ⟨va,vb,vp,X8,rfl,e8,q3,q4,q5,q6⟩;have d8:=HM.disk e8 q3 q4 q5;have j4:=b_ w6 (.cells #[.int .i64 va,.int .i64 vb,.pointer vp] 178);have a8:=d8.below j4;have j5:=BoxO.new w6 #[.int .i64 va,.int .i64 vb,.pointer vp] 178
  by_cases h8:b7=0
  ·subst h8
   obtain⟨f,G2,G3,G4,x7⟩:=q6 rfl;have x8:=G3.symm;have x9:=G2.symm;subst x8 G4 x9;have x':=q2.out rfl;have n1:=HM.lt;have d8:=d8.tab (x:=(((lev,n),Tb.rows (Ck.of l x)),f)) (x7 _ (fun g C=>by
    rcases q_.1 C with q|q
    ·exact .inr (n1 g q).2
    ·exact .inl q))
   have a8:=d8.below j4;clear q6 x7 q3 q4 q5 e8 p9 a8 p';have a8:=d8.below j4;have q7:=(Below.refl (w6.alloc (.cells #[.int .i64 lev,.int .i64 n,.pointer (some f)] 178)).heap.size (w6.alloc (.cells #[.int .i64 lev,.int .i64 n,.pointer (some f)] 178))).alloc l_ (.cells #[.int .i64 lev,.int .i64 n] 173);have q8:=BoxO.new (w6.alloc (.cells #[.int .i64 lev,.int .i64 n,.pointer (some f)] 178)) #[.int .i64 lev,.int .i64 n] 173;have a9:=a8.below q7;have n2:=j5.below q7;have n3:=d8.lt;have x1:(w6.alloc (.cells #[.int .i64 lev,.int .i64 n,.pointer (some f)] 178)).cell? ⟨(w:Nat)+1+1+1+1+1,1,none⟩=some (.slice F.a F.n F.c):=a8.bx.cell 1;have u0:=j5.c0;have u1:=j5.c1;rw[F_]at q8;obtain⟨i0,y7,y8,y9,y'⟩:=info_parts kq1;have G6:F.n=q1.length:=by
    have:=a9.oa.1;have e:∀l:List (Int×Int),(bz l).length=l.length *2:=fun l=>by
     induction l with
     |nil=>rfl
     |cons a l ih=>unfold bz at *;rw[P_,e_,ih,r_];simp only[r_,R_];omega
    rw[e,aG_]at this;omega
   have z0:Hid (F.n<=100000):=H_ (by have:=m3.2.1;omega);clear G6;have z3:=a9.way.c.size;have z4:=zx3 q8 rfl;have z5:=a9.oa;have z6:=H_ a9;have z7:=H_ n2;have z8:=H_ x';have z9:=H_ n3;clear a9 n2 x' a8 q7 j5 d8 j4 n1 n3 q8 q2
   gi_wp2_with (gi_at_builtin;refine iq ?_)
   refine gz (ty1 rfl (.tmp 42) (.tmp 45) _ rfl (w:Nat) 173 i0 _ 2 16 underlying104 y7 y8 y9 y' rfl o_ z3 (.slice F.a F.n F.c) F.n (bz (q1.map (·.1.1))) rfl z5 _ (some ⟨(w6:Nat)+1,0,none⟩) 1 1 [.int .i64 lev,.int .i64 n] rfl z4 (fun v hv=>fw1 [(lev,n)] v (by simpa [bz] using hv)) (F.n+1) (bz (q1.map (·.1.1)++[(lev,n)])) rfl (by simp[bz]) (by have:=z0.out;unfold maxLen;omega) (by have:=z0.out;omega) ?_);intro A4 c4 w8 p1 p2 p3 p4 p5;have a9:=z6.out;have cF:Chg (blk F) ((w6.alloc (.cells #[.int .i64 lev,.int .i64 n,.pointer (some f)] 178)).alloc (.cells #[.int .i64 lev,.int .i64 n] 173)) w8:=Chg.qy p2 fun b e=>pq.2 e;have j7:=a9.bx.chg cF (fun o=>gw1 a9.oa a9.bx (by decide) (pq.1 o));have n5:=z7.chg cF (fun o=>by have:=(z9.out _ (jk.2 (.inr (.inr (.inr (.inr (.inr (.inl o)))))))).2;omega);have y1:w8.cell? ⟨(w:Nat)+1+1+1+1+1,1,none⟩=some (.slice F.a F.n F.c):=j7.cell 1;have z1:w8.frozen? ⟨(w:Nat)+1+1+1+1+1,1,none⟩=false:=j7.free 1;have q':=a9.addF HH.out p1 p2 p5;have c5:Chg [(w:Nat)+5] w8 (w8.setCell ⟨(w:Nat)+1+1+1+1+1,1,none⟩ (.slice A4 (F.n+1) c4)):=(Chg.refl _ _).setCell _ (.inl s_);have b':=n5.chg c5 (by have:=HM.way.c.size;have:=HM.bx.lt;have:=z9.out _ (jk.2 (.inr (.inl rfl)));simp;omega);have v0:=b'.c0;have v1:=b'.c1;have v2:=b'.c2;have tt:(w8.setCell ⟨(w:Nat)+1+1+1+1+1,1,none⟩ (.slice A4 (F.n+1) c4)).cell? (I:Nat)=some (.slice T.a T.n T.c):=q'.bt.cell 0;have A1:=(Below.refl (w8.setCell ⟨(w:Nat)+1+1+1+1+1,1,none⟩ (.slice A4 (F.n+1) c4)).heap.size (w8.setCell ⟨(w:Nat)+1+1+1+1+1,1,none⟩ (.slice A4 (F.n+1) c4))).alloc l_ (.cells #[.int .i64 lev,.int .i64 n,.pointer (some f)] 178);have r1:=BoxO.new (w8.setCell ⟨(w:Nat)+1+1+1+1+1,1,none⟩ (.slice A4 (F.n+1) c4)) #[.int .i64 lev,.int .i64 n,.pointer (some f)] 178;rw[show (w8.setCell ⟨(w:Nat)+1+1+1+1+1,1,none⟩ (.slice A4 (F.n+1) c4)).heap.size=(w8:Nat) from by simp]at r1;have J:=q'.below A1;obtain⟨i1,A6,A7,A8,A9⟩:=info_parts ij2;have l6:T.n=q0.length+q1.length:=by
    have:=J.ot.1;rw[xq,e_]at this;omega
   have A':q0.length<=1000:=by
    rw[o9.out];have h1:=aw_ (fun x:Tq=>!decide (x.1.1.2∈inn)) Y.q;have h2:Y.q.length=V.tabs.length:=by rw[<-HQ.out,aG_]
    omega
   have n6:Hid (T.n<=200000):=H_ (by have:=m3.2.1;omega);have n7:=wj3 r1 rfl;have f5:=J.ot;have n8:=J.way.c.size;have n9:=H_ J;clear J l6 A' A1 q' n5 b' c5 cF j7 a9 p1 p2 p3 p4 p5 z6 z7 r1 x1 u0 u1 z4 z5 y7 y8 y9 y' z3
   gi_wp2_with (gi_at_builtin;refine iq ?_)
   refine gz (ty1 rfl (.tmp 48) (.tmp 50) _ rfl (w:Nat) 178 i1 _ 3 24 underlying91 A6 A7 A8 A9 rfl o_ n8 (.slice T.a T.n T.c) T.n (hcells (q0++q1)) rfl f5 _ (some ⟨w8,0,none⟩) 1 1 [.int .i64 lev,.int .i64 n,.pointer (some f)] rfl n7 (fun v hv=>yq1 [(((lev,n),Tb.rows (Ck.of l x)),f)] v (by simpa [hcells] using hv)) (T.n+1) (hcells (q0++(q1++[(((lev,n),Tb.rows (Ck.of l x)),f)]))) rfl (by simp[hcells]) (by have:=n6.out;unfold maxLen;omega) (by have:=n6.out;omega) ?_);intro A5 c5 j8 p1 p2 p3 p4 p5;have J:=n9.out;have cT:Chg (blk T) ((w8.setCell ⟨(w:Nat)+1+1+1+1+1,1,none⟩ (.slice A4 (F.n+1) c4)).alloc (.cells #[.int .i64 lev,.int .i64 n,.pointer (some f)] 178)) j8:=Chg.qy p2 fun b e=>pq.2 e;have e4:=J.bt.chg cT (fun o=>gw1 J.ot J.bt (by decide) (pq.1 o));have g0:=e4.c0;have g1:=e4.free 0;have b9:=J.addT (x:=(((lev,n),Tb.rows (Ck.of l x)),f)) HH.out p1 p2 p5;have n':av4 H (fun W O=>O.heap[(I:Nat)+1]?=W.heap[(I:Nat)+1]?/\O.heap[(I:Nat)+1+1]?=W.heap[(I:Nat)+1+1]?)
     (fun pre W=>(pre=[]/\W=H)\/∃r S1 X1 F T q1,MgK w X Y V I H r D dm dd lev N nn nc L lm lc q0 W X1 S1 F T (q1.map (·.1.1)) q1 q1/\pre.map (Ck.of l)=(Tb.cut 200 lm l).take pre.length/\St.writes lev (pre.map (Ck.of l)) S []=(S1,q1.map (·.1),0)/\S1.load<=S.load+3 *pre.length/\q1.length=pre.length)
     (fun c pre W=>c=.ret/\∃S1 X1 er,er≠0/\R=(S1,V,er)/\Way w X Y V W X1 S1/\BoxO W 26 ((w:Nat)+4) [.int .i64 ((er:Nat):Int)]/\((H:Nat)∉XY X1 Y/\(H:Nat)+1∉XY X1 Y)/\dw1 H W) (pre++[x]) W6 .normal { tmps:=#[],defers:=[] } (j8.setCell I (.slice A5 (T.n+1) c5)):=by
    refine⟨⟨b9.la.1.trans HM.la.1.symm,b9.la.2.trans HM.la.2.symm⟩,⟨?_,?_⟩,.inr ⟨r,S8,X8,⟨A4,F.n+1,c4⟩,⟨A5,T.n+1,c5⟩,q1++[(((lev,n),Tb.rows (Ck.of l x)),f)],?_,x6,by rw[z8.out,aK_];rfl,by have:=m3.out;rw[e_,ax_];omega,by rw[e_,e_,m3.2.1];rfl⟩⟩
    ·exact Eq.trans b9.fix.now.1.2.2.2.2.1 (Eq.symm HM.fix.now.1.2.2.2.2.1)
    ·exact Eq.trans b9.fix.now.1.2.2.2.2.2 (Eq.symm HM.fix.now.1.2.2.2.2.2)
    ·rw[aK_]
     exact b9
   have B0:=H_ n';clear n' b9 e4 cT J p1 p2 p3 p4 p5 n9 n7 f5 A6 A7 A8 A9 n8 y1 z1 v0 v1 v2 tt
   gi_wp2
   exact B0
  ·have e1:((b7:Int)==0)=false:=by simp;omega
   have e5:=a8.b4;have s4:(w6.alloc (.cells #[.int .i64 va,.int .i64 vb,.pointer vp] 178)).cell? ⟨(w:Nat)+1+1+1+1,0,none⟩=some (.int .i64 0):=e5.cell 0;have f4:(w6.alloc (.cells #[.int .i64 va,.int .i64 vb,.pointer vp] 178)).frozen? ⟨(w:Nat)+1+1+1+1,0,none⟩=false:=e5.free 0;have cc:Chg [(w:Nat)+4] (w6.alloc (.cells #[.int .i64 va,.int .i64 vb,.pointer vp] 178)) ((w6.alloc (.cells #[.int .i64 va,.int .i64 vb,.pointer vp] 178)).setCell ⟨(w:Nat)+1+1+1+1,0,none⟩ (.int .i64 b7)):=(Chg.refl _ _).setCell _ (.inl s_);have E:=a8.no;have d5:=a8.la;have h':=d5.at_.lt;have j9:∀g,(H:Nat)<=g->g < (H:Nat)+2->g∉[(w:Nat)+4]:=fun g h1 h2 e6=>by
    have:=c_.1 e6;have:=i9.size;have:=l'.out;have:=i8.out;omega
   have e7:dy4 H r ((w6.alloc (.cells #[.int .i64 va,.int .i64 vb,.pointer vp] 178)).setCell ⟨(w:Nat)+1+1+1+1,0,none⟩ (.int .i64 b7)):=⟨(cc.block _ o_ (j9 _ o_ o_)).trans d5.1,(cc.block _ h' (j9 _ o_ o_)).trans d5.2⟩;have o0:zv1 H W6 ((w6.alloc (.cells #[.int .i64 va,.int .i64 vb,.pointer vp] 178)).setCell ⟨(w:Nat)+1+1+1+1,0,none⟩ (.int .i64 b7))/\∃S1 X1 er,er≠0/\R=(S1,V,er)/\Way w X Y V ((w6.alloc (.cells #[.int .i64 va,.int .i64 vb,.pointer vp] 178)).setCell ⟨(w:Nat)+1+1+1+1,0,none⟩ (.int .i64 b7)) X1 S1/\BoxO ((w6.alloc (.cells #[.int .i64 va,.int .i64 vb,.pointer vp] 178)).setCell ⟨(w:Nat)+1+1+1+1,0,none⟩ (.int .i64 b7)) 26 ((w:Nat)+4) [.int .i64 ((er:Nat):Int)]/\((H:Nat)∉XY X1 Y/\(H:Nat)+1∉XY X1 Y)/\dw1 H ((w6.alloc (.cells #[.int .i64 va,.int .i64 vb,.pointer vp] 178)).setCell ⟨(w:Nat)+1+1+1+1,0,none⟩ (.int .i64 b7)):=
    ⟨⟨e7.1.trans HM.la.1.symm,e7.2.trans HM.la.2.symm⟩,S8,X8,b7,h8,p'.out h8,Way.scr HH.out a8.way (G:=[(w:Nat)+4]) (fun g C=>by rw[c_.1 C];exact⟨o_,E _ (jk.2 (.inl rfl))⟩) cc,e5.store 0 (.int .i64 b7),⟨E _ (jk.2 s_),E _ (jk.2 s_)⟩,e7.at_⟩
   have HF:=H_ o0;clear o0 e7 j9 h' d5 E cc e5 j5 a8 j4 d8 q6 q3 q4 q5 e8 h8 p9 HM p' q2 x6 t5 t7
   gi_wp2
   exact⟨HF.1,rfl,HF.2⟩
 case done=>
  rintro D2 ys W9 hD r4 hI hK j';obtain⟨r,S1,X1,F,T,q1,o,m0,e3,m1,m2⟩:=hI.resolve_left (fun h=>by
   rw[h.2,j']at hK;exact absurd (E_.1 hK).1 o_)
  rw[r4]at e3;have d9:=HR.trans (St.wk3 (by rw[d3.out];exact e3));rw[show (q1.map (·.1)).map (·.1)=q1.map (·.1.1) from by simp[cm_,cw_]]at d9;obtain⟨tb,r5⟩:=n_ (V.tabs.filter (fun t=>!decide (t.1.2∈inn))++q1.map (·.1));rw[<-r5]at d9;have i':=o.lt;have f6:=HW.2.2;have k0:=i9.size;have d':=l'.out;have e2:=i8.out;have B1:ys.length<=lm:=by
   have h1:=congrArg List.length r4;rw[aG_]at h1;have h2:=Tb.eq2 200 o_ lm l;rw[d3.out]at h2;omega
  obtain⟨⟨b0,b1,b2,b3,bS,bM⟩,_⟩:=o.fix.now;have r6:∀g∈((w:Nat)+4)::(H:Nat)::XY X1 Y,g∈XY X1 Y\/(w:Nat)<=g:=fun g C=>by
   rcases h_.1 C with q|q
   ·exact .inr o_
   ·rcases h_.1 q with q|q
    ·exact .inr o_
    ·exact .inl q
  have E:∀{g},g∈mgG w I H F T->g∉XY X1 Y:=fun C=>o.no _ C;have B2:∀g,(Value.slice T.a T.n T.c).ownBlock=some g->g∉((w:Nat)+4)::(H:Nat)::XY X1 Y:=fun g e C=>by
   rcases h_.1 C with q|q
   ·exact gw1 o.ot o.b4 (by decide) (by rw[e,q])
   ·rcases h_.1 q with q|q
    ·exact(o.la.at_.own o.ot).1 (by rw[e,q])
    ·exact E (jk.2 (.inr (.inr (.inr (.inr (.inr (.inr (pq.2 e)))))))) q
  have B3:(q0++q1).map (·.1)=tb:=by
   rw[r5,aK_,o9.out,<-HQ.out,List.filter_map];rfl
  obtain⟨Tc,Tm,_⟩:=aq2 o.ot;have k3:uw (((w:Nat)+4)::(H:Nat)::XY X1 Y) W9 fun W=>iv1 W T (q0++q1) tb:=fun O c=>by
   refine⟨B3,(nz c (Row.own o.ot) l_ (fun j _ a ha=>B2 _ (by rw[ha];rfl))).up c.size,Tc,Tm,ov1 o.ot,fun p hp=>?_⟩
   rcases q_.1 hp with q|q
   ·rw[o9.out]at q
    exact(Way.tabs HH.out o.way r6 O c).2.2.2.2.2 p (ac_.1 q).1
   ·refine(o.fix O (c.mono fun g C=>.inl ?_)).2 p q
    rcases h_.1 C with z|z
    ·rw[z]
     exact x_ _ (jk.2 (.inl rfl))
    ·rcases h_.1 z with z|z
     ·rw[z]
      exact x_ _ (jk.2 s_)
     ·exact k_ _ z
  have k4:uw (((w:Nat)+4)::(H:Nat)::XY X1 Y) W9 fun W=>Its 0 W N nn nc next:=F2.step o.way.c (fun g C=>by
   rcases r6 g C with z|z
   ·exact o.way.f g z
   ·exact .inr z)
  have f9:uw (XY X1 Y) W9 fun W=>(BoxO W 55 (w:Nat) [.pointer (some Y.s)]/\BoxO W 73 ((w:Nat)+1) [.slice D dm dd]/\BoxO W 26 ((w:Nat)+4) [.int .i64 0]/\W.heap[(H:Nat)]?=some (.deferred (some [])))/\BoxO W 91 (I:Nat) [.slice T.a T.n T.c]/\BoxO W 34 ((w:Nat)+3) [.slice N nn nc]:=fun O c=>by
   have h1:=o.fix O (c.mono fun g C=>.inl (k_ _ C));exact⟨⟨h1.1.1,h1.1.2.1,o.b4.chg c (E (jk.2 (.inl rfl))),(c.block _ (by have:=o.la.at_.lt;omega) (E (jk.2 s_))).trans o.la.1⟩,o.bt.chg c (E (jk.2 s_)),h1.1.2.2.2.1⟩
  have B4:pw5 W9 X1 Y V 125 #[.pointer (some (I:Nat)),.pointer (some (w:Nat)),.pointer (some ⟨(w:Nat)+1+1+1,0,none⟩)] (fun w1 X2 P1 S2 M1 b w'=>SvAt w' X2 S2 { Y with P:=P1,T:=T,q:=q0++q1,A:=⟨N,nn,nc⟩ } (St.mergeD tb next { V with M:=M1,only:=b })/\Chg (XY X2 Y) w1 w'):=by
   intro w1 X2 P1 S2 M1 b e1 r7 B6 L8 H4;have hb:=f9 w1 r7;have L9:Y.s < (w:Nat):=f6 _ (k_ _ (Yw.aj.2 (.inl rfl)));exact tw3 H4 I w ((w:Nat)+1+1+1) T (q0++q1) tb N nn nc next hb.2.1 hb.1.1 hb.2.2 (by show (w:Nat)≠Y.s;omega) (by show (w:Nat)+1+1+1≠Y.s;omega)
    (k3.step (r7.mono fun g C=>.inl (f_ _ (f_ _ C))) (fun g C=>(B6 g C).imp (fun z=>f_ _ (f_ _ z)) id))
    (k4.step (r7.mono fun g C=>.inl (f_ _ (f_ _ C))) (fun g C=>(B6 g C).imp (fun z=>f_ _ (f_ _ z)) id))
  have B7:F.n<=1000000:=by
   have:=o.oa.1;have e:∀l:List (Int×Int),(bz l).length=l.length *2:=fun l=>by
    induction l with
    |nil=>rfl
    |cons a l ih=>unfold bz at *;rw[P_,e_,ih,r_];simp only[r_,R_];omega
   rw[e,aG_]at this;omega
  have o2:Row W9 W9 D dm 1 (pz inn):=(nz o.way.c i3.out l_ (fun j _ a ha=>(o4 a ha).1)).up o.way.c.size;have d2:=ax3 o.way.at_ ⟨inn,q1.map (·.1.1),0,0,0,0,0⟩ D dm dd F.a F.n F.c o_ B7 o2 (Row.own o.oa) (fun a ha e6=>by
   have h1:=o4 a ha
   rcases o.way.f _ e6 with z|z
   ·exact h1.1 z
   ·omega) (fun a ha=>E (jk.2 (.inr (.inr (.inr (.inr (.inr (.inl (pq.2 (by rw[ha];rfl))))))))))
   E5 E6 E7 125 _ (St.mergeD tb next) (fun _ _=>rfl) B4
  obtain⟨Tr,r8⟩:=n_ (St.turn S1 V ⟨inn,q1.map (·.1.1),0,0,0,0,0⟩ (St.mergeD tb next));have g':Tr.1.load<=S1.load:=by rw[r8];exact ix3 _ _ _ _
  rw[<-r8]at d2 d9;unfold Ed.val at d2;simp only[cB_]at d2;have t5:=b0.c0;have y0:W9.cell? ⟨(w:Nat)+1+1+1+1+1,0,none⟩=some (.slice D dm dd):=o.bx.cell 0;have y1:W9.cell? ⟨(w:Nat)+1+1+1+1+1,1,none⟩=some (.slice F.a F.n F.c):=o.bx.cell 1;have y2:W9.cell? ⟨(w:Nat)+1+1+1+1+1,2,none⟩=some (.int .i64 0):=o.bx.cell 2;have y3:W9.cell? ⟨(w:Nat)+1+1+1+1+1,3,none⟩=some (.int .u64 0):=o.bx.cell 3;have y4:W9.cell? ⟨(w:Nat)+1+1+1+1+1,4,none⟩=some (.int .u64 0):=o.bx.cell 4;have y5:W9.cell? ⟨(w:Nat)+1+1+1+1+1,5,none⟩=some (.int .u64 0):=o.bx.cell 5;have y6:W9.cell? ⟨(w:Nat)+1+1+1+1+1,6,none⟩=some (.int .u64 0):=o.bx.cell 6;have l7:=H_ d2;have r9:=H_ d9;have HM:=H_ o;have B8:=H_ (d_ k3 (d_ k4 f9));have B9:Hid (Tr.1.load<=1000000000000):=H_ o_;have B':=H_ j';have r':Hid ((w:Nat)+4∉XY X1 Y/\(H:Nat)∉XY X1 Y):=H_ ⟨E (jk.2 (.inl rfl)),E (jk.2 s_)⟩;clear d2 d9 o k3 k4 f9 g' B4 o2 B7 Tc Tm B3 B2 E r6 b0 b1 b2 b3 bS bM B1 i' f6 k0 d' e2 r8 m0 e3 m1 m2 r4 hI hD j' i6 r5 hK;refine v' _ _ ?_;refine wpIn_wide.2 ?_;clear v';go_wp2_with fail
  refine m_ l7 ?_
  rintro e j8 k5;obtain⟨rfl,X2,Y2,hE⟩:e=.returned (.int .i64 Tr.2.2)/\∃X2 Y2,MgE w X Y H D dm dd j8 Tr.1 Tr.2.1 X2 Y2:=by
   obtain⟨he,w1,X2,P1,S2,M1,b,e1,c1,f1,p1,h1,H6⟩:=k5;have o:=HM.out;obtain⟨k3,k4,f9⟩:=B8.out;have i':=o.lt;have k0:=i9.size;have f6:=HW.2.2;have m4:Chg (((w:Nat)+4)::(H:Nat)::XY X1 Y) W9 w1:=c1.mono fun g C=>.inl (f_ _ (f_ _ C));have m5:∀g∈((w:Nat)+4)::(H:Nat)::XY X2 Y,g∈((w:Nat)+4)::(H:Nat)::XY X1 Y\/(W9:Nat)<=g:=fun g C=>by
    rcases h_.1 C with q|q
    ·exact .inl (by rw[q];exact p_)
    ·rcases h_.1 q with q|q
     ·exact .inl (by rw[q];exact f_ _ p_)
     ·exact(f1 g q).imp (fun q=>f_ _ (f_ _ q)) id
   have C0:=o.way.c.trans c1 o.way.f;have s0:∀g∈XY X2 Y,g∈XY X Y\/(w:Nat)<=g:=fun g C=>by
    rcases f1 g C with q|q
    ·exact o.way.f g q
    ·exact .inr (g_ o.way.c.size q)
   have h4:=o.b4.lt;have h5:=o.la.at_.lt;have C1:(w:Nat)+4 < (H:Nat):=by have:=i8.out;have:=l'.out;omega
   have E:((w:Nat)+4)∉XY X2 Y/\(H:Nat)∉XY X2 Y:=⟨fun e6=>(f1 _ e6).elim r'.1 o_,fun e6=>(f1 _ e6).elim r'.2 o_⟩;have C2:∀(M:Gs) (hr:Row w1 w1 P1.a P1.n 2 (bz M.v.files)),∀j,j < (bz M.v.files).length->∀a,P1.a=some a->a.block≠(w:Nat)+4/\a.block≠(H:Nat):=fun M hr j hj a ha=>by
    rcases p1 with p1|p1
    ·have C3:=HH.row.row
     have l1:=hr.len;have l2:=C3.len;rw[p1]at l1 ha;obtain⟨a',e,q1,_⟩:=C3.cell j o_;rw[ha]at e;injection e with e;subst e;omega
    ·have:=p1 a ha
     omega
   rcases H6 with ⟨rfl,z1,z2⟩|⟨⟨k1,k2⟩,z1,z2⟩
   ·rw[z1,z2]
    exact⟨he,X2,{ Y with P:=P1 },e1.trans o.way.d,rfl,h1,C0,s0,E,C1,(HH.tabs.step o.way.c (fun g C=>by
     rcases h_.1 C with q|q
     ·exact .inr o_
     ·rcases h_.1 q with q|q
      ·exact .inr o_
      ·exact o.way.f g q)).step m4 m5,(HH.st.step o.way.c (fun g C=>by
     rcases h_.1 C with q|q
     ·exact .inr o_
     ·rcases h_.1 q with q|q
      ·exact .inr o_
      ·exact o.way.f g q)).step m4 m5,C2 M1 h1.row.row,(f9.step c1 f1).mono fun _ hq=>hq.1⟩
   ·rw[z1,z2]
    have C4:Chg (((w:Nat)+4)::(H:Nat)::XY X2 Y) w1 j8:=k2.mono fun g C=>.inl (f_ _ (f_ _ C));exact⟨he,X2,{ Y with P:=P1,T:=T,q:=q0++q1,A:=⟨N,nn,nc⟩ },e1.trans o.way.d,rfl,k1,C0.trans k2 s0,s0,E,C1,(k3.step m4 m5).step C4 (fun g C=>.inl C),(k4.step m4 m5).step C4 (fun g C=>.inl C),C2 M1 h1.row.row,((f9.step c1 f1).step k2 (fun g C=>.inl C)).mono fun _ hq=>hq.1⟩
  clear k5 l7 B8 HM r' t5 y0 y1 y2 y3 y4 y5 y6;have HE:=H_ hE;have i0:=hE.bx.now.2.1.c0;obtain⟨er,s1⟩:=n_ Tr.2.2;rw[<-s1];have k6:=H_ s1;clear hE s1;go_wp2
  go_loopw [58] (fun i wr=>∃j:Nat,j<=dm/\i=.int .i64 (j:Int)/\MgD w X Y H D dm dd inn Tr Y2 j wr) (fun i _=>dm - (intOf i).toNat)
  case atStart=>exact⟨0,A_ _,rfl,Tr.1,X2,by simp[St.drops],HE⟩
  case round=>
   obtain⟨j,hj,rfl,S3,X3,d0,U⟩:=hrel;replace d0:=H_ d0;replace U:=H_ U;clear i0 HE
   by_cases i':j < dm
   ·have f7:=(nz U.c i3.out l_ (fun j _ a ha=>(o4 a ha).1)).up U.c.size
    obtain⟨a,hl,s3,C5,hc⟩:=f7.int_ i';have M7:=E0 _ (w_ hl);have s5:inn.take (j+1)=inn.take j++[inn[j]]:=v_ hl;generalize inn[j]=nj at *;have H':(j:Int) < (dm:Int):=o_
    by_cases he:er=0
    ·have e1:((er:Int)==0)=true:=by simp[he]
     have h0:Tr.2.2=0:=k6.symm.trans he;have k7:(S3.remove (Mn.name Mn.kTab nj)).1=if Tr.2.2=0 then St.drops (inn.take (j+1)) Tr.1 else Tr.1:=by
      rw[d0.out,if_pos h0,if_pos h0,s5,St.cv3];rfl
     have C6:S3.load<=1000000001000:=by
      rw[d0.out,if_pos h0];have h1:=St.pq2 (inn.take j) Tr.1;have h2:=B9.out;rw[y_]at h1;omega
     have C7:∀O,(∃S4 X4,MgE w X Y H D dm dd O S4 Tr.2.1 X4 Y2)->O.cell? (w:Nat)=some (.pointer (some Y.s))/\O.cell? Y.s=some (.pointer (some X.d)):=fun O ⟨S4,X4,h4⟩=>by
      have q:=h4.at_.box.cell 0;rw[h4.s,h4.d]at q;exact⟨h4.bx.now.1.cell 0,q⟩
     have m7:=fun O (hb:Below wr wr O)=>name_any (str Mn.kTab) (by rw[jy];decide) nj o_ O (U.below hb).at_.dm.env;simp only[kz]at m7;rw[show str Mn.kTab=({ data:=#[116,97,98] }:ByteArray) from rfl]at m7;have k8:∀O,Below wr wr O->Calls prog 81 #[.pointer (some X.d),.string (str (Mn.name Mn.kTab nj))] O fun e w'=>(∃u:Nat,e=.returned (.int .i64 u))/\∃X4,MgE w X Y H D dm dd w' (S3.remove (Mn.name Mn.kTab nj)).1 Tr.2.1 X4 Y2:=fun O hb=>by
      have h4:=U.below hb;have k8:=(Acc.start (F:=[]) h4.at_.dm).remove (str (Mn.name Mn.kTab nj)) (by rw[jy];have:=wk1 Mn.kTab nj;unfold maxLen;omega) o_;rw[kz,h4.d]at k8;exact k8.mono fun e w' ⟨he,Xq,hq⟩=>⟨⟨_,he⟩,h4.disk hq.updM⟩
     have M8:wr.cell? (a.add j)=some (.int .i64 nj):=hc;have i1:=U.bx.now.2.1.cell 0;have t3:=H_ C7;have C8:=H_ m7;have C9:=H_ k8;have C':=H_ k7;have M9:=H_ s3;clear C7 m7 k8 k7 f7 hc s5 C6 hl C5 i1 d0 he h0;subst s3;go_wp2_with fail;refine bx6 ?_;refine wp_region_held_drew (S:=fun w'=>∃S4 X4,MgE w X Y H (some a) dm dd w' S4 Tr.2.1 X4 Y2) rfl ⟨S3,X3,U.below (ax b0_)⟩ (fun a7=>?_);refine w_v 0 a7 ?_ (k:=kz32);go_simp;refine w_v 1 a7 ?_ (k:=kz32);go_simp;refine w_v 2 a7 ?_ (k:=kz32);go_simp;refine w_v 3 a7 ?_ (k:=kz32);go_simp;refine w_v 4 a7 ?_ (k:=kz32);go_simp;refine w_r 5 fun K hK=>?_;go_simp
     with_reducible refine(C8.out _ (ax b0_)).mono ?_
     rintro e w2 ⟨rfl,d4⟩;have f2:=H_ (az (ax (Below.refl wr wr)) d4);go_simp;refine hK.out _ _ ⟨S3,X3,U.below f2⟩ ?_;clear a7 hK K;intro a7;go_simp;refine w_r 6 fun K hK=>?_;go_simp
     with_reducible refine(C9.out _ f2.out).mono ?_
     rintro e w4 ⟨⟨u,rfl⟩,X4,h4⟩;replace h4:=H_ h4;go_simp;refine hK.out _ _ ⟨_,X4,h4.out⟩ ?_;clear a7 hK K;intro a7;go_simp;refine w_d ?_;have HF:Hid (MgD w X Y H (some a) dm dd inn Tr Y2 (j+1) w4):=H_ ⟨_,X4,C',h4.out⟩;clear t3 C8 C9 a7 h4 C' f2;simp only[NoP];go_wp2;go_roundw
     case rel=>exact⟨j+1,o_,by go_num,HF⟩
     case measure=>simp[intOf];omega
    ·have e1:((er:Int)==0)=false:=by simp;omega
     have k7:S3=if Tr.2.2=0 then St.drops (inn.take (j+1)) Tr.1 else Tr.1:=by
      rw[d0.out,if_neg (by rw[<-k6.out];exact he),if_neg (by rw[<-k6.out];exact he)]
     have HF:Hid (MgD w X Y H D dm dd inn Tr Y2 (j+1) wr):=H_ ⟨_,X3,k7,U⟩;clear k7 f7 s5 hl C5 d0 he U;subst s3;go_wp2;go_roundw
     case rel=>exact⟨j+1,o_,by go_num,HF⟩
     case measure=>simp[intOf];omega
   ·obtain rfl:j=dm:=o_
    have H':((j:Int) < (j:Int))=False:=eq_false o_;have e7:inn.take j=inn:=i_ (by
     have:=i3.len;unfold pz at this;rw[aG_]at this;omega)
    have hp:=MgE.post HH.out U.out (.int .i64 (er:Int));have hb:=U.bx.now;have s4:wr.cell? ⟨(w:Nat)+1+1+1+1,0,none⟩=some (.int .i64 0):=hb.2.2.1.cell 0;have f4:wr.frozen? ⟨(w:Nat)+1+1+1+1,0,none⟩=false:=hb.2.2.1.free 0;have D0:(wr.setCell ⟨(w:Nat)+1+1+1+1,0,none⟩ (.int .i64 (er:Int))).heap[D2]?=some (.deferred (some [])):=by
     rw[B'.out];exact(((Chg.refl [(w:Nat)+4] wr).setCell (p:=⟨(w:Nat)+1+1+1+1,0,none⟩) (.int .i64 (er:Int)) (.inl s_)).block _ (E_.1 hb.2.2.2).1 (fun o=>by have:=c_.1 o;have:=U.lb;omega)).trans hb.2.2.2
    have D1:R=(S3,Tr.2.1,er):=by
     rw[r9.out,d0.out,e7,<-k6.out];split
     ·rename_i h0;rw[h0]
     ·rw[k6.out]
    have d1:=hp.2;rw[<-B'.out]at d1 hp;have I0:=H_ hp.1;have I1:=H_ D1;have I2:=H_ D0;clear hp hb D1 D0 e7 d0 U;go_wp2;refine⟨by simp,.inl ⟨_,_,rfl,run_takeDeferred I2,?_⟩⟩;refine⟨.int .i64 (er:Int),by simp[results,go_sem,d1],?_⟩;rw[I1.out];exact⟨rfl,I0⟩
 case stop=>
  rintro D2 c2 pre W9 hD _ ⟨rfl,S1,X1,er,h0,d9,hw,e5,E,d5⟩ hK j';have D3:Chg [D2] W9 (W9.putObj D2 (.deferred none)):=⟨rfl,rfl,rfl,by simp,fun y _ hy=>O_ (fun e=>hy (by simp[e]))⟩;have k0:=i9.size;have e2:=i8.out;have d':=l'.out;have D4:=Way.scr HH.out hw (G:=[D2]) (fun g C=>by rw[c_.1 C,j'];exact⟨k0,E.1⟩) D3;have d1:(W9.putObj D2 (.deferred none)).cell? ⟨(w:Nat)+1+1+1+1,0,none⟩=some (.int .i64 (er:Int)):=(X_ (O_ (show (w:Nat)+4≠D2 by omega))).trans (e5.cell 0);have D5:=H_ D4.upd;have r9:=H_ d9;have HK:=H_ hK;clear D4 D3 d9 hK hw e5 E d5 h0 k0 e2 d'
  gi_wp2
  refine⟨by simp,.inl ⟨_,_,rfl,run_takeDeferred HK,?_⟩⟩;refine⟨.int .i64 (er:Int),by simp[results,go_sem,d1],?_⟩;rw[r9.out];exact⟨rfl,D5⟩
end
section
variable {w w1 w2:World} {X X1 X2:Dw} {S S1 S2:Sd} {Y Y1 Y2:Yw} {V V1 V2:Sv}
theorem Mg.nk4:∀(f:Nat) (ls:List (List It)) (out:List It),(Mg.run f ls out).length<=out.length+f
 |0,_,out=>B_ _
 |f+1,ls,out=>by
  unfold Mg.run
  cases Mg.sel ls ls.length with
  |none=>exact aq_ _ _
  |some j=>
   simp only
   cases ls.getD j [] with
   |nil=>exact aq_ _ _
   |cons x r=>
    have h1:=Mg.nk4 f (ls.set j r) (Mg.put out x);have h2:=Mg.jq out x;exact g_ h1 o_
theorem Mg.wx3 (ls:List (List It)):(Mg.rows ls).length<=Mg.tot ls:=by
 have:=Mg.nk4 (Mg.tot ls) ls [];simpa [Mg.rows] using this
def St.pl (V:Sv) (v:Nat):List It:=rx1 (clean (Mg.rows (V.tabs.map fun t=>t.2.flatten))) v
structure bk6 (V:Sv) (v:Nat):Prop where
 st:V.st.length<=2000
 fl:V.M.v.files.length<=40
 ct:V.M.count<=1000000000
 nm:V.M.name.length<=1000
 tl:V.tabs.length<=1000
 num:∀t∈V.tabs,0<=t.1.2/\t.1.2<=2147483648
 big:∀t∈V.tabs,t.2.length<=1000000/\t.2.flatten.length<=1000000
 tot:Mg.tot (V.tabs.map fun t=>t.2.flatten)<=100000
 len:(St.pl V v).length<=100000
 fit:∀x∈St.pl V v,x.fit
 good:∀r∈Tb.cut 200 (St.pl V v).length (St.pl V v),Tb.good r=true
theorem kz14 {P S a oi v} (h:Hv P S a oi v:=by intro w o;(have j4:=o);go_simp;try (with_reducible rfl)):Hv P S a oi v:=h
theorem rq3 (h:SvAt w X S Y V) (v:Nat) (j5:Tb.good (St.live V)=true) (i1:∀x∈V.mem,x.fit) (j6:V.mem.length<=400000) (j7:V.st.length<=2000) (j8:V.M.v.files.length<=40) (i2:1<=V.M.v.log/\V.M.v.log<=1073741824) (j9:V.M.count<=1000000000) (j':V.M.name.length<=1000) (m1:S.load<=50000000000)
  (d':(St.flush S V).2.2=0->bk6 (St.flush S V).2.1 v/\(St.flush S V).1.load<=100000000000):
  Calls prog 18 #[Y.s,[v]] w (gz1 X Y w (St.uv1 S V v)):=by
 have b7:=bk4 h j5 i1 j6 j7 j8 i2 j9 j' o_;obtain⟨R,H⟩:=n_ (St.uv1 S V v);rw[<-H];unfold St.uv1 at H;obtain⟨a,ha⟩:=n_ (St.flush S V);rw[<-ha]at b7 H d';obtain⟨S1,V1,er⟩:=a;unfold gz1 at b7;simp only at b7 H d';have i3:=H_ b7;have HR:=H_ H;have i4:=H_ d';clear b7 H d' ha h;go_enter func18,ntmps18;go_wp2_with fail
 refine m_ i3 ?_
 rintro e w1 ⟨rfl,X1,Y1,e0,f3,h1,c1,f1⟩
 by_cases he:er=0
 ·subst he
  have H:=HR.out;rw[if_neg s_]at H;obtain⟨I,Q⟩:=i4.out rfl;have c5:=h1.box.cell 5;rw[f3]at c5;simp only[Yw.cells,gE0,gE1]at c5;have f4:=h1.alen;have i6:=tz2 Y1.A.a Y1.A.n Y1.A.c V1.st v w1 (by rw[f4];have:=I.st;omega) h1.st.now.row;have f5:=H_ i6;have H1:=H_ h1;have HC:=H_ (d_ e0 (d_ f3 (d_ c1 f1)));have HM:=H_ (d_ I Q);have f6:=H_ H;have e4:=H_ f4;clear i6 h1 e0 c1 f1 I Q H f4 i3 i4 HR;go_wp2_with fail
  refine m_ f5 ?_
  rintro e w2 ⟨A6,k6,rfl,b8,a2,b3⟩;have h2:=H1.below b3;have f8:=h2.box.cell 5;rw[HC.2.1]at f8;simp only[Yw.cells,gE0,gE1]at f8
  by_cases hl:k6=Y1.A.n
  ·have e2:((k6:Int)==(Y1.A.n:Int))=true:=by simp[hl]
   have H:=f6.out;rw[if_pos (by rw[<-b8,hl,e4.out])]at H;have HZ:Hid (gz1 X Y w R (.returned (.int .i64 0)) w2):=H_ (by
    rw[H];exact⟨rfl,wy1.trans HC.1 HC.2.1 HC.2.2.1 HC.2.2.2 (wy1.same H1.out b3)⟩)
   clear H hl a2 b8 b3 h2 f5 H1 HC HM f6 e4;go_wp2;go_ret;exact HZ
  ·have e2:((k6:Int)==(Y1.A.n:Int))=false:=by simp;omega
   have H:=f6.out;rw[if_neg (by rw[<-b8,<-e4.out];exact hl)]at H;obtain⟨I,Q⟩:=HM.out;have e5:=h2.lt;obtain⟨hq,b9,k8,k9,k',i8⟩:=h2.tabs.now;have f9:=h2.tlen;have z:Below w2 w2 w2.drew:=ax b0_;have g4:∀W',Below w2 w2 W'->W'.cell? (Y.s,4)=some (.slice Y1.T.a Y1.T.n Y1.T.c):=fun W' hb=>by
    have q:=(h2.below hb).box.cell 4;rw[HC.2.1]at q;exact q
   have e6:=HC.2.1;have b':=fun W' (hb:Below w2 w2 W')=>ew4 Y1.s Y1.T.n Y1.T.c Y1.T.a Y1.q W' (by rw[e6];exact g4 W' hb) ((b9.below hb).up hb.size) (by rw[f9];have:=I.tl;omega);rw[e6]at b';have a4:=fun W' (hb:Below w2 w2 W')=>sk4 Y1.T.a Y1.T.n Y1.T.c Y1.q W' ((b9.below hb).up hb.size) (fun p hp=>(i8 p hp).below hb) (by rw[f9];have:=I.tl;omega) (fun p hp=>I.big p.1 (by rw[<-hq];exact List.mem_map_of_mem hp));obtain⟨ls,c9⟩:=n_ (V1.tabs.map fun t=>t.2.flatten);have e':(Y1.q.map fun p=>p.1.2.flatten)=ls:=by rw[c9,<-hq,cm_];rfl
   have d0:St.pl V1 v=rx1 (clean (Mg.rows ls)) v:=by rw[c9];rfl
   rw[e']at a4;have d1:=I.tot;rw[<-c9]at d1 H;have i9:∀W' A3 k3 c3 A7 k7 c7,Below w2 w2 W'->k3=Y1.q.length->W'.ownsRow w2 3 1 (.slice A3 k3 c3) k3 (Y1.q.map fun p=>.int .i64 p.1.1.2)->k7=(rx1 (clean (Mg.rows ls)) v).length->W'.ownsRow w2 33 5 (.slice A7 k7 c7) k7 (itc (rx1 (clean (Mg.rows ls)) v))->
     Calls prog 56 #[Y.s,.slice A3 k3 c3,.int .i64 3,.slice A7 k7 k7,.slice A6 k6 k6] W' (gz1 X Y w R):=by
    intro W' A3 k3 c3 A7 k7 c7 hb U E J a0;have h5:=h2.below hb;rw[show (Y1.q.map fun p=>Value.int .i64 p.1.1.2)=pz (V1.tabs.map fun t=>t.1.2) from by rw[<-hq];simp[pz,cw_]]at E;have l2:=H1.lt;have m2:Y1.q.length=V1.tabs.length:=by rw[<-hq,aG_]
    have i':=fj4 h5 A3 k3 c3 (V1.tabs.map fun t=>t.1.2) 3 A7 k7 k7 (rx1 (clean (Mg.rows ls)) v) A6 k6 k6 (rx1 V1.st v) (by have:=I.tl;omega) (Row.own E) (fun a ha=>by
     have q1:=(aq2 E).2.2 a ha;exact⟨fun d2=>by have:=e5 _ d2;omega,(E.lt a.block (by rw[ha];rfl)).2⟩) (fun n hn=>by
     obtain⟨t,ht,rfl⟩:=aP_.1 hn;exact I.num t ht) (by rw[J,<-d0];exact I.len) l_ (Row.own a0) (fun a ha d2=>by
     have q1:=(aq2 a0).2.2 a ha;have:=e5 _ d2;omega) (by rw[<-d0];exact I.fit) (by rw[<-d0];exact I.good) (fun m5 c=>⟨(nz c ((a2.row.below hb).up hb.size) l_ (fun j _ a ha d2=>by
      have q1:=a2.low a ha;have:=l2 _ d2;omega)).up c.size,a2.nc,a2.cm,fun _ _=>A_ _⟩) I.fl I.tl I.ct I.nm Q
    rw[e6]at i';refine i'.mono ?_;rintro e w' ⟨he,hu⟩;rw[H];exact⟨he,wy1.trans HC.1 HC.2.1 (HC.2.2.1.trans (Chg.of_below (az b3 hb) []) (fun g hg=>by cases hg)) HC.2.2.2 hu⟩
   have f2:ls.length<=1000:=by rw[c9,aG_];exact I.tl
   have e7:=H_ i9;have j0:=H_ f2;have b0:=H_ b';have b1:=H_ a4;have e9:=H_ g4;have H2:=H_ (d_ h2 (d_ e5 hq));have b2:=H_ d1;have m8:=H_ d0;have m9:=H_ H;have m':=H_ (d_ a2 (d_ b8 b3));clear i9 f2 b' a4 g4 h2 e5 hq d1 d0 H a2 b8 b3 b9 k8 k9 k' i8 f9 c9 e' I Q f5 e4 hl e6;go_wp2_with fail;clear e2 f8;refine wp_region_held_drew (S:=fun _=>True) rfl trivial (fun o=>?_);refine w_v 0 o ?_ (k:=kz14);go_simp;refine w_v 1 o ?_ (k:=kz14);go_simp;refine w_v 3 o ?_ (k:=kz14);go_simp;refine w_v 4 o ?_ (k:=kz14);go_simp;refine w_v 5 o ?_ (k:=kz14);go_simp;refine w_v 9 o ?_ (k:=kz14);go_simp;refine w_v 11 o ?_ (k:=kz14);go_simp;refine wpAnyH_ready (rs:=[2,6]) (by kernel_rfl) s_ ?_;refine AllReadyH.cons rfl (fun K C=>?_) (AllReadyH.cons rfl (fun K C=>?_) AllReadyH.nil)
   ·go_simp
    with_reducible refine(b0.out _ z).mono ?_
    rintro e w3 ⟨A3,k3,c3,rfl,U,E,g8⟩;have z:=az z g8;replace E:Hid (w3.ownsRow w2 3 1 (.slice A3 k3 c3) k3 (Y1.q.map fun p=>.int .i64 p.1.1.2)):=H_ E;replace U:=H_ U;go_simp;refine C.out _ _ trivial ?_;clear o C K;intro o;go_simp;refine w_r 6 fun K C=>?_
    ·have q4:=e9.out _ z
     go_simp;refine C.out _ _ trivial ?_;clear o C K;intro o;go_simp;refine w_r 7 fun K C=>?_;go_simp
     with_reducible refine(b1.out _ z).mono ?_
     rintro e w4 ⟨A4,k4,c4,vs,rfl,a5,a6,d3,d4⟩;have z:=az z d4;have g':=H_ (own_below E.out d4);replace a5:=H_ a5;have d5:=H_ (d_ (d3.rows a6) (ov1 a6));clear a6 d3;go_simp;refine C.out _ _ trivial ?_;clear o C K;intro o;go_simp;refine w_r 8 fun K C=>?_;go_simp
     with_reducible refine(gx3 A4 k4 c4 ls _ (by rw[a5.out];have:=j0.out;omega) (by have:=b2.out;omega) d5.out.2 d5.out.1).mono ?_
     rintro e w5 ⟨A5,k5,h0,rfl,a7,a8,d6⟩;have z:=az z d6;have h6:=H_ (own_below g'.out d6);replace a7:=H_ a7;replace a8:=H_ a8;go_simp;refine C.out _ _ trivial ?_;clear o C K;intro o;go_simp;refine w_r 10 fun K C=>?_;go_simp
     with_reducible refine(jz2 A5 k5 h0 (Mg.rows ls) v _ (by rw[a7.out];exact g_ (Mg.wx3 ls) (by have:=b2.out;omega)) a8.out.row).mono ?_
     rintro e w6 ⟨A7,k7,c7,rfl,J,a0,h7,h8,d7⟩;have d8:=H_ (own_base a0 z.size);have z:=az z d7;have h9:=H_ (own_below h6.out d7);replace J:=H_ J;clear h7 h8 a0;go_simp;refine C.out _ _ trivial ?_;clear o C K;intro o;go_simp;refine w_r 12 fun K C=>?_;go_simp
     with_reducible refine(e7.out w6 A3 k3 c3 A7 k7 c7 z U.out h9.out J.out d8.out).mono ?_
     rintro e w7 O;have h':=O.1;subst h';replace O:=H_ O;go_simp;refine C.out _ _ trivial ?_;clear o C K;intro o;go_simp;refine w_v 13 o ?_ (k:=kz14);go_simp;refine w_d ?_
     (clear e7 b0 b1 e9 HM;go_wp2;go_ret;exact O.out)
   ·have q4:=e9.out _ z
    go_simp;refine C.out _ _ trivial ?_;clear o C K;intro o;go_simp;refine w_r 2 fun K C=>?_
    ·go_simp
     with_reducible refine(b0.out _ z).mono ?_
     rintro e w3 ⟨A3,k3,c3,rfl,U,E,g8⟩;have z:=az z g8;replace E:Hid (w3.ownsRow w2 3 1 (.slice A3 k3 c3) k3 (Y1.q.map fun p=>.int .i64 p.1.1.2)):=H_ E;replace U:=H_ U;go_simp;refine C.out _ _ trivial ?_;clear o C K;intro o;go_simp;refine w_r 7 fun K C=>?_;go_simp
     with_reducible refine(b1.out _ z).mono ?_
     rintro e w4 ⟨A4,k4,c4,vs,rfl,a5,a6,d3,d4⟩;have z:=az z d4;have g':=H_ (own_below E.out d4);replace a5:=H_ a5;have d5:=H_ (d_ (d3.rows a6) (ov1 a6));clear a6 d3;go_simp;refine C.out _ _ trivial ?_;clear o C K;intro o;go_simp;refine w_r 8 fun K C=>?_;go_simp
     with_reducible refine(gx3 A4 k4 c4 ls _ (by rw[a5.out];have:=j0.out;omega) (by have:=b2.out;omega) d5.out.2 d5.out.1).mono ?_
     rintro e w5 ⟨A5,k5,h0,rfl,a7,a8,d6⟩;have z:=az z d6;have h6:=H_ (own_below g'.out d6);replace a7:=H_ a7;replace a8:=H_ a8;go_simp;refine C.out _ _ trivial ?_;clear o C K;intro o;go_simp;refine w_r 10 fun K C=>?_;go_simp
     with_reducible refine(jz2 A5 k5 h0 (Mg.rows ls) v _ (by rw[a7.out];exact g_ (Mg.wx3 ls) (by have:=b2.out;omega)) a8.out.row).mono ?_
     rintro e w6 ⟨A7,k7,c7,rfl,J,a0,h7,h8,d7⟩;have d8:=H_ (own_base a0 z.size);have z:=az z d7;have h9:=H_ (own_below h6.out d7);replace J:=H_ J;clear h7 h8 a0;go_simp;refine C.out _ _ trivial ?_;clear o C K;intro o;go_simp;refine w_r 12 fun K C=>?_;go_simp
     with_reducible refine(e7.out w6 A3 k3 c3 A7 k7 c7 z U.out h9.out J.out d8.out).mono ?_
     rintro e w7 O;have h':=O.1;subst h';replace O:=H_ O;go_simp;refine C.out _ _ trivial ?_;clear o C K;intro o;go_simp;refine w_v 13 o ?_ (k:=kz14);go_simp;refine w_d ?_
     (clear e7 b0 b1 e9 HM;go_wp2;go_ret;exact O.out)
 ·have e1:((er:Int)==0)=false:=by simp;omega
  have H:=HR.out;rw[if_pos he]at H;have HZ:Hid (gz1 X Y w R (.returned (.int .i64 er)) w1):=H_ (by rw[H];exact⟨rfl,X1,Y1,e0,f3,h1,c1,f1⟩);clear H he;go_wp2;go_ret;exact HZ
end
end Go.Proofs.YtfbkjjdfboagfaaGreatDoor
