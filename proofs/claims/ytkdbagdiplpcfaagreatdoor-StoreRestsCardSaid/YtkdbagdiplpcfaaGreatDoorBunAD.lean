/- Some of the texts. No conditions. -/
import Derived.Test.YtkdbagdiplpcfaaGreatDoorBunAA
import Derived.Deep.RegionLaw
import Derived.BigQuiet
import Derived.Lib.MinMax

set_option linter.unusedSimpArgs false
set_option linter.unusedVariables false
set_option maxRecDepth 100000
set_option maxHeartbeats 16000000
namespace Go.Proofs.YtkdbagdiplpcfaaGreatDoor
open Go.Proofs.Tryz Go Go.RowKit Go.Lib Go.Shelf
namespace Pn
end Pn
namespace Rd
end Rd
theorem Vw.zz5 {v C:Vw} {e:Ed} (h:v.app e=some C):C.ok=true:=by
 unfold Vw.app at h
 cases hd:dropAll e.drop v.files with
 |none=>rw[hd]at h;cases h
 |some fs=>
  rw[hd]at h;simp only at h;generalize ({ log:=if e.log=0 then v.log else e.log,files:=fs++e.add,floor:=orElse e.floor v.floor,cert:=orElse e.cert v.cert,at_:=orElse e.at_ v.at_,lease:=orElse e.lease v.lease }:Vw)=x at h
  by_cases E:x.ok=true
  ·rw[if_pos E]at h
   injection h with h
   rwa [<-h]
  ·rw[if_neg E]at h
   cases h
theorem iv2 {P:Program} {ops:Array Oper} {o:Oper} {a:Act} {w:World} {K:Act->World->Prop} {Q:Exit->Act->World->Prop} {E:Prop} (a2:o.guard=none) (s x:Operand) (t:TypeId)
  (ho:o.op=.call { callee:=.builtin .append,args:=#[s,x],argTypes:=#[t,t] })
  (base:Nat) (e:TypeId) (i:TypeInfo) (z:Value) (size bytes:Nat) (ht:P.underlying t=some (.slice e)) (hi:P.info? e=some i) (hz:i.zero=some z)
  (I:i.size=size) (a4:i.bytes=bytes) (a5:z.cells.size=size) (O:0 < size) (J:base<=w.heap.size) (v:Value) (n:Nat) (xs:List Value) (hs:a.eval s=v) (U:w.ownsRow base e size v n xs)
  (B:Nat) (A:Option Addr) (m c:Nat) (hm:0 < m) (news:List Value) (hx:a.eval x=.slice A m c) (hr:Row B w A m size news) (h1:∀u∈news,u.oneCell'=true)
  (N:Nat) (X:List Value) (hN:n+m=N) (hX:xs++news=X) (a6:N<=maxLen) (C:N *bytes<=140737488355328)
  (h:∀A' H w',w'.ownsRow base e size (.slice A' N H) N X->w.grownBy w' v.ownBlock->N<=H->H<=maxLen->((Value.slice A' N H).ownBlock=v.ownBlock\/(Value.slice A' N H).ownBlock=some w.heap.size)->K (a.put o.dst (.slice A' N H)) w'):
  if Region.wanted o (yielded ops a.tmps)=true then Oper.wp P o a w K Q else E:=by
 have hw:Region.wanted o (yielded ops a.tmps)=true:=by simp[Region.wanted,a2]
 rw[if_pos hw];subst hN;subst hX;have Z:0 < news.length:=by
  rw[hr.len];exact cz_ hm O
 obtain⟨a',rfl,_⟩:=hr.some_ Z;obtain⟨v',w',a0,h3,h4,_,h6⟩:=run_append_own_at (P:=P) (ty:=o.type) w base t e i z size bytes ht hi hz I a4 a5 O v n xs U a' m c news hr.len hr.cells h1 a6 C J;obtain⟨A',H,rfl,h5,h7,_⟩:=gz h3;unfold Oper.wp execOp;simp only[ho,resolve,invoke,builtin,Sem.run_bind,Sem.run_pure,Result.andThen_ok,bI_,Z_,bO_,hs,hx,a0];exact h A' H w' h3 h4 h5 h7 h6
section
open It
structure Nd where
 x:It
 b:Nat
 tb:Nat
 h:Nat
 c:Nat
def nxt (h:Nat) (l:List Nd):Option Nd:=l.find? fun n=>decide (h < n.h)
def nxb (h:Nat) (l:List Nd):Option Nat:=(nxt h l).map (·.b)
variable {ns:List Nd} {i h q j k:Nat} {n:Nd} {x:It}
theorem dy5 (e:nxt h (ns.drop (i+1))=some n):∃k,i < k/\ns[k]?=some n/\h < n.h/\∀m n',i < m->m < k->ns[m]?=some n'->n'.h<=h:=by
 obtain⟨h1,C,I,h2,h3⟩:=List.find?_eq_some_iff_append.1 e;have E:∀m,ns[i+1+m]?=(C++n::I)[m]?:=fun m=>by rw[<-h2,ax_]
 refine⟨i+1+C.length,o_,by rw[E,aj_ o_];simp,by simpa using h1,fun m n' h4 h5 H=>?_⟩;obtain⟨d,rfl⟩:∃d,m=i+1+d:=⟨m - (i+1),o_⟩;rw[E,O_ o_]at H;have:=h3 n' (t_ H);simpa using this
theorem jw5 (e:nxt h (ns.drop (i+1))=none):∀m n',i < m->ns[m]?=some n'->n'.h<=h:=by
 intro m n' h4 C;obtain⟨d,rfl⟩:∃d,m=i+1+d:=⟨m - (i+1),o_⟩;have E:n'∈ns.drop (i+1):=t_ (i:=d) (by rw[ax_];exact C);simpa using bz_.1 e n' E
structure Pred (ns:List Nd) (h q j:Nat):Prop where
 lt:j < q
 on:∃n,ns[j]?=some n/\h < n.h
 last:∀i n,j < i->i < q->ns[i]?=some n->n.h<=h
def its (ns:List Nd):List It:=(ns.drop 1).map (·.x)
theorem tk2 (k:Nat):(its ns)[k]?=(ns[k+1]?).map (·.x):=by
 unfold its;rw[br_,ax_,Nat.add_comm]
theorem vz5 (H:qx (its ns)) (J:0 < k) (e:ns[k]?=some n):less n.x x=decide (k < pos (its ns) x+1):=by
 obtain⟨m,rfl⟩:∃m,k=m+1:=⟨k - 1,o_⟩;have C:(its ns)[m]?=some n.x:=by rw[tk2,e];rfl
 obtain⟨h1,h2⟩:=cw2 H x;have O:m < (its ns).length:=(J_.1 C).1
 cases E:less n.x x with
 |true=>
  refine(decide_eq_true ?_).symm;apply aN_;intro I;have:n.x∈(its ns).drop (pos (its ns) x):=t_ (i:=m - pos (its ns) x) (by rw[ax_,<-C];congr 1;omega);rw[h2]at this;have:=(P_.1 this).2;rw[E]at this
  cases this
 |false=>
  refine(decide_eq_false fun I=>?_).symm;have:n.x∈(its ns).take (pos (its ns) x):=t_ (i:=m) (by rw[a1_,if_pos o_,C]);rw[h1]at this;have:=(P_.1 this).2;rw[E]at this
  cases this
theorem Pred.low (C:Pred ns 0 q j) (I:q<=ns.length) (h1:∀n∈ns,1<=n.h):j+1=q:=by
 apply aN_;intro J;have H:=C.lt;have E:j+1 < ns.length:=o_
 have:=C.last (j+1) ns[j+1] o_ o_ (h_ E);have:=h1 _ (u_ E);omega
theorem wk3 {A R:List Nd} (C:∀n∈A,n.h<=h):nxb h (A++R)=nxb h R:=by
 unfold nxb nxt;rw[a9_,bz_.2 (fun n E=>by have:=C n E;simpa using this)];simp
theorem gq5 {A R C:List Nd} (E:∃n∈A,h < n.h):nxb h (A++R)=nxb h (A++C):=by
 unfold nxb nxt;rw[a9_,a9_];obtain⟨n,H,I⟩:=E
 cases e:A.find? fun n=>decide (h < n.h) with
 |none=>
  have:=bz_.1 e n H;simp at this;omega
 |some m=>simp
theorem tv3 {A R:List Nd} {n n':Nd} (E:n'.b=n.b) (C:h < n'.h↔h < n.h):nxb h (A++n'::R)=nxb h (A++n::R):=by
 unfold nxb nxt;rw[a9_,a9_]
 cases e:A.find? fun n=>decide (h < n.h) with
 |none=>
  simp only[Option.none_or,bV_]
  by_cases h1:h < n.h
  ·simp[h1,C.2 h1,E]
  ·have h2:¬h < n'.h:=fun h=>h1 (C.1 h)
   simp[h1,h2]
 |some m=>simp
theorem tw5 {A R:List Nd} {n:Nd} (C:n.h=0):nxb h (A++n::R)=nxb h (A++R):=by
 unfold nxb nxt;rw[a9_,a9_];simp[bV_,C]
theorem Pred.seg {A R:List Nd} (C:Pred (A++R) h A.length j):∀m∈A.drop (j+1),m.h<=h:=by
 intro m E;obtain⟨i,hi,rfl⟩:=aX_ E;rw[I_]at hi;rw[List.getElem_drop];exact C.last (j+1+i) _ o_ o_ (by rw[O_ o_];exact h_ o_)
theorem raise {A R:List Nd} {n n':Nd} (hj:Pred (A++n::R) h A.length j) (O:n.h=h) (E:n'.h=h+1) (I:n'.b=n.b) (i l:Nat) (m:Nd) (C:(A++n'::R)[i]?=some m) (Z:l < m.h):
  nxb l ((A++n'::R).drop (i+1))=if i=j/\l=h then some n.b else if i=A.length/\l=h then nxb l ((A++n::R).drop (j+1)) else nxb l ((A++n::R).drop (i+1)):=by
 rcases Nat.lt_trichotomy i A.length with h1|h1|h1
 ·have e:∀n:Nd,(A++n::R).drop (i+1)=A.drop (i+1)++n::R:=fun n=>by rw[au_ o_]
  rw[O_ h1]at C
  by_cases h2:l=h
  ·subst h2
   by_cases h3:i=j
   ·subst h3
    rw[if_pos ⟨rfl,rfl⟩,e,wk3 hj.seg];unfold nxb nxt;simp[bV_,E,I]
   ·rw[if_neg (by simp[h3]),if_neg o_,e,e]
    rcases ch_ h3 with h4|h4
    ·obtain⟨p,J,Q⟩:=hj.on
     have:=hj.lt;rw[O_ hj.lt]at J;exact gq5 ⟨p,t_ (i:=j - (i+1)) (by rw[ax_,<-J];congr 1;omega),Q⟩
    ·exfalso
     have:=hj.last i m h4 h1 (by rw[O_ h1];exact C);omega
  ·rw[if_neg (by simp[h2]),if_neg (by simp[h2]),e,e]
   exact tv3 I o_
 ·subst h1
  have H:=hj.lt;rw[aj_ l_,bQ_,gE0]at C;injection C with C;subst C;have e:∀n:Nd,(A++n::R).drop (A.length+1)=R:=fun n=>by
   rw[<-aZ_,bp_];rfl
  by_cases h2:l=h
  ·subst h2
   rw[if_neg o_,if_pos ⟨rfl,rfl⟩,e];have U:(A++n::R).drop (j+1)=(A.drop (j+1)++[n])++R:=by rw[au_ o_];simp
   rw[U,wk3];intro m C
   rcases k_.1 C with h3|h3
   ·exact hj.seg m h3
   ·rw[a_.1 h3,O]
    exact y_ _
  ·rw[if_neg (by simp[h2]),if_neg (by simp[h2]),e,e]
 ·have H:=hj.lt
  have e:∀n:Nd,(A++n::R).drop (i+1)=R.drop (i - A.length):=fun n=>by
   rw[bK_,aG_ o_,C_];have:i+1 - A.length=(i - A.length)+1:=o_
   rw[this,bM_]
  rw[if_neg o_,if_neg o_,e,e]
theorem fj4 {A R:List Nd} {n:Nd} (E:0 < A.length):its (A++n::R)=(its (A++R)).take (A.length - 1)++n.x::(its (A++R)).drop (A.length - 1):=by
 unfold its;rw[au_ o_,au_ o_,am_,am_,Z_];have C:((A.drop 1).map (·.x)).length=A.length - 1:=by simp
 rw[<-C,cy_,bp_]
end
theorem uy2 {P:Program} (w:World) (base:Nat) (t ty e:TypeId) (i:TypeInfo) (z:Value) (size bytes:Nat) (Z:P.underlying t=some (.slice e)) (hi:P.info? e=some i) (hz:i.zero=some z)
  (I:i.size=size) (a0:i.bytes=bytes) (a1:z.cells.size=size) (O:0 < size) (v:Value) (n:Nat) (xs:List Value) (C:w.ownsRow base e size v n xs)
  (B:Nat) (A:Option Addr) (m c:Nat) (news:List Value) (Q:Row B w A m size news) (h1:∀u∈news,u.oneCell'=true)
  (a2:n+m<=maxLen) (H:(n+m)*bytes<=140737488355328) (J:base<=w.heap.size):
  ∃A' E w',(Builtin.append_ #[t,t] ty #[v,.slice A m c]).run P w=.ok (.slice A' (n+m) E) w'/\w'.ownsRow base e size (.slice A' (n+m) E) (n+m) (xs++news)/\w.grownBy w' v.ownBlock/\n+m<=E/\E<=maxLen/\((Value.slice A' (n+m) E).ownBlock=v.ownBlock\/(Value.slice A' (n+m) E).ownBlock=some w.heap.size):=by
 rcases ao_ m with h0|h0
 ·subst h0
  have hn:news=[]:=bc_ (by simpa using Q.len);subst hn;obtain⟨A',E,rfl,h5,h6,_⟩:=gz C;rw[ak_];refine⟨A',E,w,?_,C,⟨rfl,rfl,rfl,y_ _,fun _ _ _=>rfl⟩,h5,h6,.inl rfl⟩
  rcases C.2 with ⟨hv,rfl⟩|⟨g,cap,cur,hv,_,_,a7,_⟩
  ·cases hv
   rcases A with _|a<;>simp[Builtin.append_,run_underlying Z,sizeOf,typeInfo,hi,Builtin.lenOf,Builtin.firstCells,loadCells,loadCellsFrom]
  ·cases hv
   rcases A with _|a<;>simp[Builtin.append_,run_underlying Z,sizeOf,typeInfo,hi,Builtin.lenOf,Builtin.firstCells,loadCells,loadCellsFrom,a7,storeCells]
 ·have U:0 < news.length:=by
   rw[Q.len];exact cz_ h0 O
  obtain⟨a,rfl,_⟩:=Q.some_ U;obtain⟨v',w',h2,h3,h4,_,h6⟩:=run_append_own_at (P:=P) (ty:=ty) w base t e i z size bytes Z hi hz I a0 a1 O v n xs C a m c news Q.len Q.cells h1 a2 H J;obtain⟨A',E,rfl,h5,h7,_⟩:=gz h3;exact⟨A',E,w',h2,h3,h4,h5,h7,h6⟩
theorem lq3 {P:Program} {w:World} {ops:Array Oper} {rest:List Oper} {o:Oper} {a:Act} {Q:Exit->Act->World->Prop} (U:o.guard=none) (s x:Operand) (t:TypeId)
  (ho:o.op=.call { callee:=.builtin .append,args:=#[s,x],argTypes:=#[t,t] })
  (base:Nat) (e:TypeId) (i:TypeInfo) (z:Value) (size bytes:Nat) (ht:P.underlying t=some (.slice e)) (hi:P.info? e=some i) (hz:i.zero=some z)
  (H:i.size=size) (Z:i.bytes=bytes) (a0:z.cells.size=size) (a1:0 < size) (I:base<=w.heap.size) (v:Value) (n:Nat) (xs:List Value) (hs:a.eval s=v) (J:w.ownsRow base e size v n xs)
  (B:Nat) (A:Option Addr) (m c:Nat) (news:List Value) (hx:a.eval x=.slice A m c) (hr:Row B w A m size news) (h1:∀u∈news,u.oneCell'=true)
  (N:Nat) (X:List Value) (hN:n+m=N) (hX:xs++news=X) (a2:N<=maxLen) (C:N *bytes<=140737488355328)
  (h:∀A' E w',w'.ownsRow base e size (.slice A' N E) N X->w.grownBy w' v.ownBlock->N<=E->E<=maxLen->((Value.slice A' N E).ownBlock=v.ownBlock\/(Value.slice A' N E).ownBlock=some w.heap.size)->wpList P ops Q rest (a.put o.dst (.slice A' N E)) w'):wpList P ops Q (o::rest) a w:=by
 subst hN;subst hX;obtain⟨A',E,w',O,h3,h4,h5,h7,h6⟩:=uy2 (P:=P) w base t o.type e i z size bytes ht hi hz H Z a0 a1 v n xs J B A m c news hr h1 a2 C I;refine wpList_plain U fun _ hK=>?_;unfold Oper.wp execOp;simp only[ho,resolve,invoke,builtin,Sem.run_bind,Sem.run_pure,Result.andThen_ok,bI_,Z_,bO_,hs,hx,O];exact hK _ _ (h A' E w' h3 h4 h5 h7 h6)
namespace It
def tks:Nat->List UInt8->Option (List Nat×List UInt8)
 |0,b=>some ([],b)
 |k+1,b=>match tks k b with
  |none=>none
  |some (ns,r)=>if (Pn.take r).2.2=0 then some (ns++[(Pn.take r).1],r.drop (Pn.take r).2.1) else none
def bq2:It:=⟨0,0,0,0,0⟩
theorem vy2 (b:List UInt8):take1 b=if b.length < 2 then (bq2,[],4) else
  if (Pn.take (b.drop 2)).2.2=0 then
   if (Pn.take ((b.drop 2).drop (Pn.take (b.drop 2)).2.1)).2.2=0 then
    if (Pn.take (((b.drop 2).drop (Pn.take (b.drop 2)).2.1).drop (Pn.take ((b.drop 2).drop (Pn.take (b.drop 2)).2.1)).2.1)).2.2=0 then
     (⟨Fr.u b 0,Fr.u b 1,(Pn.take (b.drop 2)).1,(Pn.take ((b.drop 2).drop (Pn.take (b.drop 2)).2.1)).1,qy1 (Pn.take (((b.drop 2).drop (Pn.take (b.drop 2)).2.1).drop (Pn.take ((b.drop 2).drop (Pn.take (b.drop 2)).2.1)).2.1)).1⟩,
      (((b.drop 2).drop (Pn.take (b.drop 2)).2.1).drop (Pn.take ((b.drop 2).drop (Pn.take (b.drop 2)).2.1)).2.1).drop (Pn.take (((b.drop 2).drop (Pn.take (b.drop 2)).2.1).drop (Pn.take ((b.drop 2).drop (Pn.take (b.drop 2)).2.1)).2.1)).2.1,0)
    else (bq2,[],(Pn.take (((b.drop 2).drop (Pn.take (b.drop 2)).2.1).drop (Pn.take ((b.drop 2).drop (Pn.take (b.drop 2)).2.1)).2.1)).2.2)
   else (bq2,[],(Pn.take ((b.drop 2).drop (Pn.take (b.drop 2)).2.1)).2.2)
  else (bq2,[],(Pn.take (b.drop 2)).2.2):=by
 unfold take1;split
 ·rfl
 ·generalize b.drop 2=r1
  generalize hp:Pn.take r1=p;obtain⟨t,C,E⟩:=p
  match E with
  |e+1=>rfl
  |0=>
   simp only[if_true];generalize r1.drop C=r2;generalize H:Pn.take r2=I;obtain⟨v,J,O⟩:=I
   match O with
   |e+1=>rfl
   |0=>
    simp only[if_true];generalize r2.drop J=Q;generalize U:Pn.take Q=Z;obtain⟨x,n3,e3⟩:=Z
    match e3 with
    |e+1=>rfl
    |0=>rfl
variable {b r:List UInt8} {ns:List Nat} {k:Nat}
theorem xj1:∀{k:Nat} {ns:List Nat} {r:List UInt8},tks k b=some (ns,r)->ns.length=k
 |0,ns,r,h=>by
  simp only[tks,aC_,bW_]at h;rw[<-h.1];rfl
 |k+1,ns,r,h=>by
  unfold tks at h;split at h
  ·cases h
  ·rename_i ms q C
   split at h
   ·simp only[aC_,bW_]at h
    rw[<-h.1,d_,xj1 C];rfl
   ·cases h
theorem zk4 (h:tks k b=some (ns,r)) (C:(Pn.take r).2.2=0):tks (k+1) b=some (ns++[(Pn.take r).1],r.drop (Pn.take r).2.1):=by
 unfold tks;rw[h];simp only;rw[if_pos C]
theorem ly1 {n:Nat} {q:List UInt8} (h:tks (k+1) b=some (ns,r)):∃ms q,tks k b=some (ms,q)/\(Pn.take q).2.2=0/\ns=ms++[(Pn.take q).1]/\r=q.drop (Pn.take q).2.1:=by
 unfold tks at h;split at h
 ·cases h
 ·rename_i ms q C
  split at h
  ·rename_i E
   simp only[aC_,bW_]at h;exact⟨ms,q,C,E,h.1.symm,h.2.symm⟩
  ·cases h
theorem uk1 (h:tks 0 b=some (ns,r)):ns=[]/\r=b:=by
 simp only[tks,aC_,bW_]at h;exact⟨h.1.symm,h.2.symm⟩
theorem gw4 (h2:¬b.length < 2) (I:k < 3) (h:tks k (b.drop 2)=some (ns,r)) (C:(Pn.take r).2.2≠0):take1 b=(bq2,[],(Pn.take r).2.2):=by
 rw[vy2,if_neg h2];have e:k=0\/k=1\/k=2:=o_
 rcases e with rfl|rfl|rfl
 ·obtain⟨_,rfl⟩:=uk1 h
  rw[if_neg C]
 ·obtain⟨ms,q,h1,E,_,rfl⟩:=ly1 (n:=0) (q:=[]) h
  obtain⟨_,rfl⟩:=uk1 h1;rw[if_pos E,if_neg C]
 ·obtain⟨ms,q,h1,E,_,rfl⟩:=ly1 (n:=0) (q:=[]) h
  obtain⟨ms,q,h3,H,_,rfl⟩:=ly1 (n:=0) (q:=[]) h1;obtain⟨_,rfl⟩:=uk1 h3;rw[if_pos H,if_pos E,if_neg C]
theorem yw3 (h2:¬b.length < 2) (h:tks 3 (b.drop 2)=some (ns,r)):take1 b=(⟨Fr.u b 0,Fr.u b 1,ns.getD 0 0,ns.getD 1 0,qy1 (ns.getD 2 0)⟩,r,0):=by
 rw[vy2,if_neg h2];obtain⟨ms,q,h1,C,rfl,rfl⟩:=ly1 (n:=0) (q:=[]) h;obtain⟨ms,q,h3,E,rfl,rfl⟩:=ly1 (n:=0) (q:=[]) h1;obtain⟨ms,q,h4,H,rfl,rfl⟩:=ly1 (n:=0) (q:=[]) h3;obtain⟨rfl,rfl⟩:=uk1 h4;rw[if_pos H,if_pos E,if_pos C];rfl
theorem yj3 (n:Nat) (b:List UInt8) (out:List It):takes (n+1) b out=if (take1 b).2.2=0 then takes n (take1 b).2.1 (out++[(take1 b).1]) else ([],[],(take1 b).2.2):=by
 rw[takes];generalize take1 b=p;obtain⟨x,s,e⟩:=p
 match e with
 |0=>rfl
 |e+1=>rfl
theorem sx5 (b:List UInt8):read b=if (Pn.take b).2.2=0 then (if 2000 < (Pn.take b).1 then ([],2) else if (takes (Pn.take b).1 (b.drop (Pn.take b).2.1) []).2.2=0 then (if (takes (Pn.take b).1 (b.drop (Pn.take b).2.1) []).2.1=[]/\(takes (Pn.take b).1 (b.drop (Pn.take b).2.1) []).1.all ok=true then ((takes (Pn.take b).1 (b.drop (Pn.take b).2.1) []).1,0) else ([],3)) else ([],(takes (Pn.take b).1 (b.drop (Pn.take b).2.1) []).2.2)) else ([],(Pn.take b).2.2):=by
 unfold read;generalize Pn.take b=p;obtain⟨n,s,e⟩:=p
 match e with
 |e+1=>rfl
 |0=>
  simp only[if_true];generalize takes n (b.drop s) []=q;obtain⟨o,r,e⟩:=q
  match e with
  |0=>rfl
  |e+1=>rfl
end It
theorem ty1 (a b:It) (w:World):Calls prog 151 #[a.val,b.val] w fun e w'=>e=.returned (.bool (a.less b))/\Below w.heap.size w w':=by
 obtain⟨I,J,t1,U,Z⟩:=a;obtain⟨O,Q,t2,v2,x2⟩:=b;have E:=(b_ w (.cells #[.int .i64 I,.int .i64 J,.int .u64 (t1:Int),.int .u64 (U:Int),.int .i64 Z] 49)).alloc s_ (.cells #[.int .i64 O,.int .i64 Q,.int .u64 (t2:Int),.int .u64 (v2:Int),.int .i64 x2] 49);obtain⟨r,C⟩:=n_ (It.less ⟨I,J,t1,U,Z⟩ ⟨O,Q,t2,v2,x2⟩);rw[<-C];unfold It.less at C;unfold It.val;simp only at C ⊢
 by_cases h1:I=O
 ·subst h1
  by_cases h2:J=Q
  ·subst h2
   by_cases h3:(t1:Int) < (t2:Int)
   ·have h4:t1 < t2:=o_
    have H:=H_ (C.trans (show _=true by simp[h4]));clear C;go_enter func151,ntmps151;go_wp2;go_ret;exact⟨ik H.out.symm,E⟩
   ·have h4:¬t1 < t2:=o_
    have H:=H_ (C.trans (show _=false by simp[h4]));clear C;go_enter func151,ntmps151;go_wp2;go_ret;exact⟨ik H.out.symm,E⟩
  ·have e2:(J==Q)=false:=by simpa using h2
   by_cases h3:J < Q
   ·have H:=H_ (C.trans (show _=true by simp[h2,h3]))
    clear C;go_enter func151,ntmps151;go_wp2;go_ret;exact⟨ik H.out.symm,E⟩
   ·have H:=H_ (C.trans (show _=false by simp[h2,h3]))
    clear C;go_enter func151,ntmps151;go_wp2;go_ret;exact⟨ik H.out.symm,E⟩
 ·have e1:(I==O)=false:=by simpa using h1
  by_cases h3:I < O
  ·have H:=H_ (C.trans (show _=true by simp[h1,h3]))
   clear C;go_enter func151,ntmps151;go_wp2;go_ret;exact⟨ik H.out.symm,E⟩
  ·have H:=H_ (C.trans (show _=false by simp[h1,h3]))
   clear C;go_enter func151,ntmps151;go_wp2;go_ret;exact⟨ik H.out.symm,E⟩
theorem iw4 (a b:It) (w:World):Calls prog 150 #[a.val,b.val] w fun e w'=>e=.returned (.bool (a.wins b))/\Below w.heap.size w w':=by
 obtain⟨U,Z,t1,H,O⟩:=a;obtain⟨s2,k2,t2,I,Q⟩:=b;have E:=(b_ w (.cells #[.int .i64 U,.int .i64 Z,.int .u64 (t1:Int),.int .u64 (H:Int),.int .i64 O] 49)).alloc s_ (.cells #[.int .i64 s2,.int .i64 k2,.int .u64 (t2:Int),.int .u64 (I:Int),.int .i64 Q] 49);obtain⟨r,C⟩:=n_ (It.wins ⟨U,Z,t1,H,O⟩ ⟨s2,k2,t2,I,Q⟩);rw[<-C];unfold It.wins at C;unfold It.val;simp only at C ⊢
 by_cases h1:(I:Int) < (H:Int)
 ·have h4:I < H:=o_
  have J:=H_ (C.trans (show _=true by simp[h4]));clear C;go_enter func150,ntmps150;go_wp2;go_ret;exact⟨ik J.out.symm,E⟩
 ·have h4:¬I < H:=o_
  by_cases h2:H=I
  ·subst h2
   by_cases h3:Q < O
   ·have J:=H_ (C.trans (show _=true by simp[h3]))
    clear C;go_enter func150,ntmps150;go_wp2;go_ret;exact⟨ik J.out.symm,E⟩
   ·have J:=H_ (C.trans (show _=false by simp[h3]))
    clear C;go_enter func150,ntmps150;go_wp2;go_ret;exact⟨ik J.out.symm,E⟩
  ·have e2:((H:Int)==(I:Int))=false:=by rw[beq_eq_false_iff_ne];omega
   have J:=H_ (C.trans (show _=false by simp[h4,h2]));clear C;go_enter func150,ntmps150;go_wp2;go_ret;exact⟨ik J.out.symm,E⟩
theorem yy1 (a b:It) (w:World):Calls prog 147 #[a.val,b.val] w fun e w'=>e=.returned (.bool (a.hides b))/\Below w.heap.size w w':=by
 obtain⟨O,Q,t1,I,x1⟩:=a;obtain⟨U,Z,t2,J,x2⟩:=b;have E:=(b_ w (.cells #[.int .i64 O,.int .i64 Q,.int .u64 (t1:Int),.int .u64 (I:Int),.int .i64 x1] 49)).alloc s_ (.cells #[.int .i64 U,.int .i64 Z,.int .u64 (t2:Int),.int .u64 (J:Int),.int .i64 x2] 49);obtain⟨r,C⟩:=n_ (It.hides ⟨O,Q,t1,I,x1⟩ ⟨U,Z,t2,J,x2⟩);rw[<-C];unfold It.hides at C;unfold It.val;simp only at C ⊢
 by_cases h1:Q=1
 ·subst h1
  by_cases h2:Z=2
  ·subst h2
   by_cases h3:O=U
   ·subst h3
    by_cases h4:(J:Int)<=(I:Int)
    ·have h5:J<=I:=o_
     have H:=H_ (C.trans (show _=true by simp[h5]));clear C;go_enter func147,ntmps147;go_wp2;go_ret;exact⟨ik H.out.symm,E⟩
    ·have h5:¬J<=I:=o_
     have H:=H_ (C.trans (show _=false by simp[h5]));clear C;go_enter func147,ntmps147;go_wp2;go_ret;exact⟨ik H.out.symm,E⟩
   ·have e3:(O==U)=false:=by simpa using h3
    have H:=H_ (C.trans (show _=false by simp[h3]));clear C;go_enter func147,ntmps147;go_wp2;go_ret;exact⟨ik H.out.symm,E⟩
  ·have e2:(Z==2)=false:=by simpa using h2
   have H:=H_ (C.trans (show _=false by simp[h2]));clear C;go_enter func147,ntmps147;go_wp2;go_ret;exact⟨ik H.out.symm,E⟩
 ·have e1:(Q==1)=false:=by simpa using h1
  have H:=H_ (C.trans (show _=false by simp[h1]));clear C;go_enter func147,ntmps147;go_wp2;go_ret;exact⟨ik H.out.symm,E⟩
theorem kw4 (a b:It) (w:World):Calls prog 149 #[a.val,b.val] w fun e w'=>e=.returned (.bool (a.same b))/\Below w.heap.size w w':=by
 obtain⟨H,I,t1,J,O⟩:=a;obtain⟨Q,U,t2,Z,x2⟩:=b;have a9:=(b_ w (.cells #[.int .i64 H,.int .i64 I,.int .u64 (t1:Int),.int .u64 (J:Int),.int .i64 O] 49)).alloc s_ (.cells #[.int .i64 Q,.int .i64 U,.int .u64 (t2:Int),.int .u64 (Z:Int),.int .i64 x2] 49);have hl:=fun W=>ty1 ⟨H,I,t1,J,O⟩ ⟨Q,U,t2,Z,x2⟩ W;have E:=fun W=>ty1 ⟨Q,U,t2,Z,x2⟩ ⟨H,I,t1,J,O⟩ W;unfold It.val It.same;unfold It.val at hl E;simp only at hl E ⊢;generalize It.less ⟨H,I,t1,J,O⟩ ⟨Q,U,t2,Z,x2⟩=p at *;generalize It.less ⟨Q,U,t2,Z,x2⟩ ⟨H,I,t1,J,O⟩=q at *;have HL:=H_ hl;have a':=H_ E;have hA:=(BoxO.new w #[.int .i64 H,.int .i64 I,.int .u64 (t1:Int),.int .u64 (J:Int),.int .i64 O] 49).alloc (.cells #[.int .i64 Q,.int .i64 U,.int .u64 (t2:Int),.int .u64 (Z:Int),.int .i64 x2] 49);have hB:=BoxO.new (w.alloc (.cells #[.int .i64 H,.int .i64 I,.int .u64 (t1:Int),.int .u64 (J:Int),.int .i64 O] 49)) #[.int .i64 Q,.int .i64 U,.int .u64 (t2:Int),.int .u64 (Z:Int),.int .i64 x2] 49;rw[Q_]at hB;clear hl E
 cases p with
 |true=>
  clear hA hB a';go_enter func149,ntmps149;go_wp2_with fail;refine(HL.out _).mono ?_;rintro e w1 ⟨rfl,C⟩;have a6:=az a9 C;go_wp2;go_ret;exact⟨rfl,a6⟩
 |false=>
  go_enter func149,ntmps149;go_wp2_with fail;refine(HL.out _).mono ?_;rintro e w1 ⟨rfl,C⟩;have a6:=az a9 C;have kA:=hA.below C;have kB:=hB.below C;have a0:=kA.c0;have a1:=kA.c1;have a2:=kA.c2;have a3:=kA.c3;have a4:=kA.c4;have b0:=kB.c0;have b1:=kB.c1;have b2:=kB.c2;have b3:=kB.c3;have b4:=kB.c4;clear hA hB kA kB HL;go_wp2_with fail;refine(a'.out _).mono ?_;rintro e w2 ⟨rfl,b9⟩;have b':=az a6 b9
  cases q
  all_goals
   go_wp2;go_ret;exact⟨rfl,b'⟩
theorem oz3 (a:It) (w:World):Calls prog 68 #[a.val] w fun e w'=>e=.returned (.bool a.ok)/\Below w.heap.size w w':=by
 obtain⟨I,O,t1,J,Q⟩:=a;have E:=b_ w (.cells #[.int .i64 I,.int .i64 O,.int .u64 (t1:Int),.int .u64 (J:Int),.int .i64 Q] 49);obtain⟨r,C⟩:=n_ (It.ok ⟨I,O,t1,J,Q⟩);rw[<-C];unfold It.ok at C;unfold It.val;simp only at C ⊢
 by_cases h1:I < 0
 ·have U:¬0<=I:=o_
  have H:=H_ (C.trans (show _=false by simp[U]));clear C;go_enter func68,ntmps68;go_wp2;go_ret;exact⟨ik H.out.symm,E⟩
 have U:0<=I:=o_
 by_cases h2:255 < I
 ·have Z:¬I<=255:=o_
  have H:=H_ (C.trans (show _=false by simp[Z]));clear C;go_enter func68,ntmps68;go_wp2;go_ret;exact⟨ik H.out.symm,E⟩
 have Z:I<=255:=o_
 by_cases h3:(J:Int) < 1
 ·have g3:¬1<=J:=o_
  have H:=H_ (C.trans (show _=false by simp[g3]));clear C;go_enter func68,ntmps68;go_wp2;go_ret;exact⟨ik H.out.symm,E⟩
 have g3:1<=J:=o_
 by_cases h4:281474976710656 < (J:Int)
 ·have g4:¬J<=281474976710656:=o_
  have H:=H_ (C.trans (show _=false by simp[g4]));clear C;go_enter func68,ntmps68;go_wp2;go_ret;exact⟨ik H.out.symm,E⟩
 have g4:J<=281474976710656:=o_
 by_cases h5:O=1
 ·subst h5
  by_cases h6:t1=0
  ·subst h6
   by_cases h7:Q=0
   ·subst h7
    have H:=H_ (C.trans (show _=true by simp[U,Z,g3,g4]));clear C;go_enter func68,ntmps68;go_wp2;go_ret;exact⟨ik H.out.symm,E⟩
   ·have e7:(Q==0)=false:=by simpa using h7
    have H:=H_ (C.trans (show _=false by simp[h7]));clear C;go_enter func68,ntmps68;go_wp2;go_ret;exact⟨ik H.out.symm,E⟩
  ·have e6:((t1:Int)==0)=false:=by rw[beq_eq_false_iff_ne];omega
   have H:=H_ (C.trans (show _=false by simp[h6]));clear C;go_enter func68,ntmps68;go_wp2;go_ret;exact⟨ik H.out.symm,E⟩
 have e5:(O==1)=false:=by simpa using h5
 by_cases h8:O=2
 ·subst h8
  by_cases h9:(t1:Int)<=1099511627776
  ·have g9:t1<=1099511627776:=o_
   have H:=H_ (C.trans (show _=true by simp[U,Z,g3,g4,g9]));clear C;go_enter func68,ntmps68;go_wp2;go_ret;exact⟨ik H.out.symm,E⟩
  ·have g9:¬t1<=1099511627776:=o_
   have H:=H_ (C.trans (show _=false by simp[g9]));clear C;go_enter func68,ntmps68;go_wp2;go_ret;exact⟨ik H.out.symm,E⟩
 have e8:(O==2)=false:=by simpa using h8
 have H:=H_ (C.trans (show _=false by simp[h5,h8]));clear C;go_enter func68,ntmps68;go_wp2;go_ret;exact⟨ik H.out.symm,E⟩
theorem az5 (h:BitVec 64) (c:UInt8):IntKind.u64.wrap (bits .xor .u64 (h.toNat:Int) (IntKind.u64.wrap (c.toNat:Int))*1099511628211)=((Fnv.byte h c).toNat:Int):=by
 have h1:IntKind.u64.wrap (c.toNat:Int)=((BitVec.ofNat 64 c.toNat).toNat:Int):=by
  rw[<-zj5,IntKind.wrap_u64];have:=c.toNat_lt;omega
 rw[h1,rx2,IntKind.wrap_u64,Fnv.byte,BitVec.toNat_mul];rfl
theorem qx3 (A:Option Addr) (n c:Nat) (l:List UInt8) (w:World) (I:n<=9223372036854775807) (E:Row w.heap.size w A n 1 (bts l)):
  Calls Tryz.prog 188 #[.slice A n c] w fun e w'=>e=.returned (.int .u64 ((Fnv.hash l).toNat:Int))/\w=w':=by
 go_enter Tryz.func188,Tryz.ntmps188;go_wp2
 go_loop [3,8,5] (fun x i _=>∃k:Nat,k<=n/\i=.int .i64 k/\x=.int .u64 ((Fnv.go Fnv.basis (l.take k)).toNat:Int)) (fun _ i _=>n - (intOf i).toNat)
 case atStart=>exact⟨0,w_ _,rfl,rfl⟩
 case round=>
  obtain⟨k,J,rfl,rfl⟩:=hrel
  by_cases C:k < n
  ·obtain⟨a,H,rfl,_,O⟩:=E.bt C
   go_wp2
   go_round
   case rel=>exact⟨k+1,o_,by go_num,int_eq (by rw[Fnv.wx5 _ _ _ H,az5])⟩
   case measure=>simp[intOf];omega
  ·go_wp2
   go_ret;exact⟨mq1 (int_eq (by rw[g_ (by have:=E.zk;omega)];rfl)),rfl⟩
section
open It
def zq (x:It) (r:List It×Bool) (y:It):List It×Bool:=
 if same x y=true then r else
 let r1:=if !r.2&&less x y then (r.1++[x],true) else r
 (if hides x y then r1.1 else r1.1++[y],r1.2)
theorem ey3 {x:It}:∀(l:List It) (out:List It),(∀y∈l,less y x=true)->l.foldl (zq x) (out,false)=(out++l.filter (fun y=>!hides x y),false)
 |[],out,_=>by simp
 |y::l,out,h=>by
  have h1:=h y i_;have h2:less x y=false:=by rw[uz]at h1;rw[bz1];omega
  have h3:same x y=false:=by simp[same,h1,h2]
  have e:zq x (out,false) y=(if hides x y then out else out++[y],false):=by simp[zq,h2,h3]
  rw[aT_,e,ey3 l _ (fun z C=>h z (e_ _ C)),ar_]
  cases hides x y<;>simp
theorem pj2 {x:It} (r:List It×Bool):∀(l:List It),(∀y∈l,same x y=true)->l.foldl (zq x) r=r
 |[],_=>rfl
 |y::l,h=>by
  have h1:=h y i_;rw[aT_,show zq x r y=r by simp[zq,h1],pj2 r l (fun z C=>h z (e_ _ C))]
theorem px2 {x:It}:∀(l:List It) (out:List It),(∀y∈l,less x y=true)->l.foldl (zq x) (out,true)=(out++l.filter (fun y=>!hides x y),true)
 |[],out,_=>by simp
 |y::l,out,h=>by
  have h1:=h y i_;have h2:less y x=false:=by rw[uz]at h1;rw[bz1];omega
  have h3:same x y=false:=by simp[same,h1,h2]
  have e:zq x (out,true) y=(if hides x y then out else out++[y],true):=by simp[zq,h3]
  rw[aT_,e,px2 l _ (fun z C=>h z (e_ _ C)),ar_]
  cases hides x y<;>simp
theorem three {l:List It} (h:qx l) (x:It):l=l.filter (fun y=>less y x)++(l.filter (fun y=>same x y)++l.filter (fun y=>less x y)):=by
 induction l with
 |nil=>rfl
 |cons a r C=>
  obtain⟨I,J⟩:=U_.1 h;have C:=C J
  cases h1:less a x with
  |true=>
   have h2:less x a=false:=by rw[uz]at h1;rw[bz1];omega
   have h3:same x a=false:=by simp[same,h1]
   simp only[ar_,h1,h2,h3,if_true,af_,if_false,T_];rw[<-C]
  |false=>
   have E:r.filter (fun y=>less y x)=[]:=aq_.2 fun y H=>by
    have:=I y H;rw[uz]at this;rw[bz1]at h1;simp only[cu_,bz1];omega
   cases h2:less x a with
   |true=>
    have h3:same x a=false:=by simp[same,h2]
    have hs:r.filter (fun y=>same x y)=[]:=aq_.2 fun y H=>by
     have:=I y H;rw[uz]at this h2;rw[same_iff];omega
    rw[E,hs]at C;simp only[ar_,h1,h2,h3,if_true,af_,if_false,E,hs,C_];exact congrArg _ (by simpa using C)
   |false=>
    have h3:same x a=true:=by simp[same,h1,h2]
    rw[E,C_]at C;simp only[ar_,h1,h2,h3,if_true,af_,if_false,E,C_,T_];rw[<-C]
theorem zv4 {l:List It} {x:It} (h:Stt l) (O:x.ok=true) (Q:hidden l x=false) (U:yz l x=false):
  (if (l.foldl (zq x) ([],false)).2=true then (l.foldl (zq x) ([],false)).1 else (l.foldl (zq x) ([],false)).1++[x])=add l x:=by
 have I:hides x x=false:=by rw[qj1];omega
 have C:add l x=(put l x).filter fun y=>!hides x y:=by unfold add;simp[O,Q,U]
 have Z:l.foldl (zq x) ([],false)=(l.filter (fun y=>less x y)).foldl (zq x) ((l.filter (fun y=>less y x)).filter (fun y=>!hides x y),false):=by
  conv=>lhs;rw[three h.rises x]
  rw[a6_,a6_,ey3 _ _ (fun y E=>(P_.1 E).2),pj2 _ _ (fun y E=>(P_.1 E).2),C_]
 rw[C,Z];unfold put;rw[aQ_,ar_];simp only[I,b5_,if_true];have H:∀y∈l.filter (fun y=>less x y),less x y=true:=fun y E=>(P_.1 E).2;generalize l.filter (fun y=>less x y)=L2 at *;generalize (l.filter (fun y=>less y x)).filter (fun y=>!hides x y)=J at *
 cases L2 with
 |nil=>simp
 |cons y r=>
  have h1:=H y i_;have h2:less y x=false:=by rw[uz]at h1;rw[bz1];omega
  have h3:same x y=false:=by simp[same,h1,h2]
  have e:zq x (J,false) y=(if hides x y then J++[x] else J++[x] ++[y],true):=by simp[zq,h1,h3]
  rw[aT_,e,px2 r _ (fun z hz=>H z (e_ _ hz)),ar_]
  cases hides x y<;>simp
end
end Go.Proofs.YtkdbagdiplpcfaaGreatDoor
