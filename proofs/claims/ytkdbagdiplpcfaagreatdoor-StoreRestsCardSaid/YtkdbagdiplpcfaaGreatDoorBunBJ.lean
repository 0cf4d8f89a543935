/- Some of the texts. No conditions. -/
import Derived.Test.YtkdbagdiplpcfaaGreatDoorBunBG

set_option linter.unusedSimpArgs false
set_option linter.unusedVariables false
set_option maxRecDepth 100000
set_option maxHeartbeats 16000000
namespace Go.Proofs.YtkdbagdiplpcfaaGreatDoor
open Go.Proofs.Tryz Go Go.RowKit Go.Lib Go.Shelf
section
open Go.ChangeShapes Go.WideShapes Go.Deep Go.Joins
structure Aq.In (a:Aq) (W:World):Prop where
 row:Row W.heap.size W a.A a.n 5 (itc a.l)
 fit:∀x∈a.l,x.fit
def mw5 (W:World) (A:Option Addr) (n:Nat) (f:Nat->Aq):Prop:=∀i,i < n->∃a,A=some a/\a.block < W.heap.size/\(∀(j:Nat) v,(f i).cells[j]?=some v->W.cell? (a.add (i *12+j))=some v)/\(f i).In W
section
variable {H:Type} {enc:TypeId×Value->H} {P:Program} {w:World} {base:Nat} {spare:Nat->Bool} {held:Bool}
theorem sq4 {t:TypeId} {f0 f1 f2 f3:Field} {C:Nat} {cs:List Value} {x:DataW H×List MemPlace} (hs:P.underlying t=some (.struct #[f0,f1,f2,f3])) (Z:(f0.offset==0&&P.cellsOf f0.type==1&&f1.offset==1&&P.cellsOf f1.type==1&&f2.offset==2&&P.cellsOf f2.type==1&&f3.offset==3&&P.cellsOf f3.type==1)=true) (hC:P.cellsOf t=4)
  (h:DataW.trod enc P w base spare held C t cs=some x):
  ∃(v0 v1 v2 v3:Value) (J O Q U:DataW H×List MemPlace) (n:Nat),cs=[v0,v1,v2,v3]/\DataW.trod enc P w base spare held n f0.type [v0]=some J/\DataW.trod enc P w base spare held n f1.type [v1]=some O/\DataW.trod enc P w base spare held n f2.type [v2]=some Q/\DataW.trod enc P w base spare held n f3.type [v3]=some U:=by
 obtain⟨xs,n,_,_,hl,E,I⟩:=DataW.trod_struct hs h;simp only[G_,beq_iff_eq]at Z;obtain⟨⟨⟨⟨⟨⟨⟨o0,k0⟩,o1⟩,k1⟩,o2⟩,k2⟩,o3⟩,k3⟩:=Z
 match cs,hl.trans hC with
 |[c0,c1,c2,c3],_=>
  match xs,E with
  |[J,O,Q,U],_=>exact⟨c0,c1,c2,c3,J,O,Q,U,n,rfl,by simpa [o0,k0] using I 0 f0 rfl,by simpa [o1,k1] using I 1 f1 rfl,by simpa [o2,k2] using I 2 f2 rfl,by simpa [o3,k3] using I 3 f3 rfl⟩
theorem aq5 {t:TypeId} {f0 f1 f2 f3 f4 f5 f6 f7 f8:Field} {E:Nat} {cs:List Value} {x:DataW H×List MemPlace} (hs:P.underlying t=some (.struct #[f0,f1,f2,f3,f4,f5,f6,f7,f8]))
  (ho:(f0.offset==0&&P.cellsOf f0.type==1&&f1.offset==1&&P.cellsOf f1.type==1&&f2.offset==2&&P.cellsOf f2.type==4&&f3.offset==6&&P.cellsOf f3.type==1&&f4.offset==7&&P.cellsOf f4.type==1&&f5.offset==8&&P.cellsOf f5.type==1&&f6.offset==9&&P.cellsOf f6.type==1&&f7.offset==10&&P.cellsOf f7.type==1&&f8.offset==11&&P.cellsOf f8.type==1)=true) (hC:P.cellsOf t=12)
  (h:DataW.trod enc P w base spare held E t cs=some x):
  ∃(v0 v1 v2 v3 v4 v5 v6 v7 v8 v9 I J:Value) (Q U Z y3 y4 y5 y6 y7 y8:DataW H×List MemPlace) (n:Nat),cs=[v0,v1,v2,v3,v4,v5,v6,v7,v8,v9,I,J]/\
   DataW.trod enc P w base spare held n f0.type [v0]=some Q/\DataW.trod enc P w base spare held n f1.type [v1]=some U/\DataW.trod enc P w base spare held n f2.type [v2,v3,v4,v5]=some Z/\DataW.trod enc P w base spare held n f3.type [v6]=some y3/\DataW.trod enc P w base spare held n f4.type [v7]=some y4/\
   DataW.trod enc P w base spare held n f5.type [v8]=some y5/\DataW.trod enc P w base spare held n f6.type [v9]=some y6/\DataW.trod enc P w base spare held n f7.type [I]=some y7/\DataW.trod enc P w base spare held n f8.type [J]=some y8:=by
 obtain⟨xs,n,_,_,hl,O,C⟩:=DataW.trod_struct hs h;simp only[G_,beq_iff_eq]at ho;obtain⟨⟨⟨⟨⟨⟨⟨⟨⟨⟨⟨⟨⟨⟨⟨⟨⟨o0,k0⟩,o1⟩,k1⟩,o2⟩,k2⟩,o3⟩,k3⟩,o4⟩,k4⟩,o5⟩,k5⟩,o6⟩,k6⟩,o7⟩,k7⟩,o8⟩,k8⟩:=ho
 match cs,hl.trans hC with
 |[c0,c1,c2,c3,c4,c5,c6,c7,c8,c9,a7,a8],_=>
  match xs,O with
  |[Q,U,Z,y3,y4,y5,y6,y7,y8],_=>
   exact⟨c0,c1,c2,c3,c4,c5,c6,c7,c8,c9,a7,a8,Q,U,Z,y3,y4,y5,y6,y7,y8,n,rfl,by simpa [o0,k0] using C 0 f0 rfl,by simpa [o1,k1] using C 1 f1 rfl,by simpa [o2,k2] using C 2 f2 rfl,by simpa [o3,k3] using C 3 f3 rfl,by simpa [o4,k4] using C 4 f4 rfl,by simpa [o5,k5] using C 5 f5 rfl,by simpa [o6,k6] using C 6 f6 rfl,by simpa [o7,k7] using C 7 f7 rfl,by simpa [o8,k8] using C 8 f8 rfl⟩
end
theorem iy4 {H:Type} {enc:TypeId×Value->H} {W:World} {base:Nat} {spare:Nat->Bool} {held:Bool} {I:Nat} {v:Value} {y:DataW H×List MemPlace}
  (E:DataW.trod enc prog W base spare held I 26 [v]=some y):
  ∃(A:Option Addr) (n c:Nat) (l:List It),v=.slice A n c/\Row W.heap.size W A n 5 (itc l)/\∀x∈l,x.fit:=by
 rcases zx1 underlying26 underlying49 (by kernel_rfl) (by kernel_rfl) E with C|⟨a,l,c,m,C,hl,hm,O,J⟩
 ·simp at C
  subst C;exact⟨none,0,0,[],rfl,Row.nil_,fun x J=>by cases J⟩
 ·simp at C
  subst C;have a2:l<=m:=by subst O;split<;>omega
  have key:∀i:Nat,∃x:It,x.fit/\(i < l->∀j v,x.cells[j]?=some v->W.cell? (a.add (i *5+j))=some v):=by
   intro i
   by_cases hi:i < l
   ·obtain⟨ys,k,E⟩:=J i o_
    obtain⟨v0,y0,h0,_,t0⟩:=E 0 _ rfl;obtain⟨v1,y1,h1,_,t1⟩:=E 1 _ rfl;obtain⟨v2,y2,h2,_,t2⟩:=E 2 _ rfl;obtain⟨v3,y3,h3,_,t3⟩:=E 3 _ rfl;obtain⟨v4,y4,h4,_,t4⟩:=E 4 _ rfl;obtain⟨z0,Q,_,_⟩:=DataW.trod_int underlying3 t0;obtain⟨z1,U,_,_⟩:=DataW.trod_int underlying3 t1;obtain⟨z2,Z,_,w2⟩:=DataW.trod_int underlying27 t2;obtain⟨z3,e3,_,w3⟩:=DataW.trod_int underlying27 t3;obtain⟨z4,e4,_,w4⟩:=DataW.trod_int underlying2 t4;simp at Q U Z e3 e4;subst Q U Z e3 e4;obtain⟨u2,rfl,b2⟩:=nv3 w2;obtain⟨u3,rfl,b3⟩:=nv3 w3;have b4:=ek6 w4;refine⟨⟨z0,z1,u2,u3,z4⟩,⟨b4.1,Int.lt_of_le_of_lt b4.2 (by decide)⟩,fun _ j v hj=>?_⟩
    match j with
    |0=>simp[It.cells]at hj;subst hj;exact h0
    |1=>simp[It.cells]at hj;subst hj;exact h1
    |2=>simp[It.cells]at hj;subst hj;exact h2
    |3=>simp[It.cells]at hj;subst hj;exact h3
    |4=>simp[It.cells]at hj;subst hj;exact h4
    |k+5=>simp[It.cells]at hj
   ·exact⟨⟨0,0,0,0,0⟩,by unfold It.fit;simp,fun h=>absurd h hi⟩
  obtain⟨f,E⟩:=Classical.axiomOfChoice key;refine⟨some a,l,c,(List.range l).map f,rfl,fv3 W a l f (fun i hi=>(E i).2 hi),fun x J=>?_⟩;obtain⟨i,_,rfl⟩:=W_.1 J;exact(E i).1
theorem ck6 {H:Type} {enc:TypeId×Value->H} {W:World} {base:Nat} {spare:Nat->Bool} {held:Bool} {J:Nat} {cs:List Value} {y:DataW H×List MemPlace}
  (hf:DataW.trod enc prog W base spare held J 32 cs=some y):∃a:Aq,cs=a.cells/\a.In W:=by
 obtain⟨v0,v1,v2,v3,v4,v5,v6,v7,v8,v9,a5,O,y0,y1,y2,y3,y4,y5,y6,y7,y8,n,rfl,t0,t1,t2,t3,t4,t5,t6,t7,t8⟩:=aq5 underlying32 (by kernel_rfl) (by kernel_rfl) hf;obtain⟨z0,Z,_,_⟩:=DataW.trod_int underlying3 t0;obtain⟨A,na,ca,l,rfl,h1,h2⟩:=iy4 t1;obtain⟨u0,u1,u2,u3,x0,x1,x2,x3,k,Q,q0,q1,q2,q3⟩:=sq4 underlying29 (by kernel_rfl) (by kernel_rfl) t2;injection Q with Q U;injection U with U E;injection E with E I;injection I with I _;subst Q U E I;obtain⟨m0,f0,_,w0⟩:=DataW.trod_int underlying27 q0;obtain⟨m1,f1,_,w1⟩:=DataW.trod_int underlying27 q1;obtain⟨m2,f2,_,w2⟩:=DataW.trod_int underlying27 q2;obtain⟨m3,f3,_,w3⟩:=DataW.trod_int underlying27 q3;obtain⟨z3,E,_,wv⟩:=DataW.trod_int underlying27 t3;obtain⟨z4,I,_,_⟩:=DataW.trod_int underlying3 t4;obtain⟨z5,e5,_,_⟩:=DataW.trod_int underlying3 t5;obtain⟨z6,e6,_,_⟩:=DataW.trod_int underlying3 t6;obtain⟨z7,e7,_,_⟩:=DataW.trod_int underlying3 t7;obtain⟨K,kn,kc,rfl⟩:∃K kn kc,O=.slice K kn kc:=by
  rcases open_slice underlying30 t8 with ⟨C,_⟩|⟨a,l,c,m,n',D,Pl,C,_⟩
  ·simp at C
   exact⟨_,_,_,C⟩
  ·simp at C
   exact⟨_,_,_,C⟩
 simp at Z f0 f1 f2 f3 E I e5 e6 e7;subst Z f0 f1 f2 f3 E I e5 e6 e7;obtain⟨n0,rfl,_⟩:=nv3 w0;obtain⟨n1,rfl,_⟩:=nv3 w1;obtain⟨n2,rfl,_⟩:=nv3 w2;obtain⟨n3,rfl,_⟩:=nv3 w3;obtain⟨nv,rfl,_⟩:=nv3 wv;exact⟨⟨z0,A,na,ca,⟨n0,n1,n2,n3⟩,nv,z4,z5,z6,z7,K,kn,kc,l⟩,rfl,h1,h2⟩
theorem kj5 {H:Type} {enc:TypeId×Value->H} {W:World} {base b0:Nat} {r:Reach} {spare:Nat->Bool} {held:Bool} {v:Value} {d:DataW H} {p:List MemPlace}
  (hv:Value.okWide prog W r b0 22 v) (h:DataW.Trod enc prog W base spare held 22 v d p):
  ∃(A:Option Addr) (n c:Nat) (f:Nat->Aq),v=.slice A n c/\n<=c/\c<=maxLen/\mw5 W A n f:=by
 obtain⟨a2,J⟩:=h;obtain⟨a,n,c,rfl⟩:=okWide_slice underlying22 hv;have O:(Value.slice a n c).cells.toList=[.slice a n c]:=rfl;rw[O]at J
 rcases open_slice underlying22 J with ⟨C,_⟩|⟨a,l,c,m,n',D,Pl,C,hb,hl,hm,Q,hx,hi⟩
 ·simp at C
  obtain⟨rfl,rfl,rfl⟩:=C;exact⟨none,0,0,fun _=>⟨0,none,0,0,⟨0,0,0,0⟩,0,0,0,0,0,none,0,0,[]⟩,rfl,y_ _,w_ _,fun i hi=>o_⟩
 ·simp at C
  obtain⟨rfl,rfl,rfl⟩:=C;have a9:n<=m:=by subst Q;split<;>omega
  have h8:prog.cellsOf 32=12:=by kernel_rfl
  have key:∀i:Nat,∃o:Aq,(i < n->∃U,some a=some U/\U.block < W.heap.size/\(∀(j:Nat) v,o.cells[j]?=some v->W.cell? (U.add (i *12+j))=some v)/\o.In W):=by
   intro i
   by_cases Z:i < n
   ·obtain⟨b2,O,ht⟩:=hi i o_
    rw[h8]at O;obtain⟨o,h1,h2⟩:=ck6 ht;obtain⟨_,b5,E⟩:=World.cells?_some O;rw[h1]at E;have a0:=E 0 (by decide);refine⟨o,fun _=>⟨a,rfl,?_,fun j v hj=>?_,h2⟩⟩
    ·have I:=M_ W _ (a0.trans rfl)
     rw[add_block,add_block]at I;exact I
    ·have a4:j < 12:=by
      have:=(J_.1 hj).1;exact this
     have a1:=E j o_;rw[<-Go.Deep.add_add,a1];exact hj
   ·exact⟨⟨0,none,0,0,⟨0,0,0,0⟩,0,0,0,0,0,none,0,0,[]⟩,fun h=>absurd h Z⟩
  obtain⟨f,J⟩:=Classical.axiomOfChoice key;exact⟨some a,n,c,f,rfl,hl,hm,fun i hi=>J i hi⟩
end
end Go.Proofs.YtkdbagdiplpcfaaGreatDoor
