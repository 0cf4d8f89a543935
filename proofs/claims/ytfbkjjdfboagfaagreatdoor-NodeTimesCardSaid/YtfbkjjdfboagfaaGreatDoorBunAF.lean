/- Some of the texts. No conditions. -/
import Derived.Test.YtfbkjjdfboagfaaGreatDoorBunAA
import Derived.Lib.AtoiAll
import Derived.Lib.ItoaNum
import Derived.Lib.Strings

set_option linter.unusedSimpArgs false
set_option linter.unusedVariables false
set_option maxRecDepth 100000
set_option maxHeartbeats 16000000
namespace Go.Proofs.YtfbkjjdfboagfaaGreatDoor
open Go.Proofs.Tryz Go Go.RowKit Go.Lib Go.Shelf
namespace Sd
variable {d:Sd}
theorem pz2 (d:Sd) (l:List (List UInt8)):(d.call l=(d,10)/\l.all named=false)\/∃H st E er,d.call l=({ d with calls:=wrap64 (d.calls+1),dead:=H,stop:=st,fail:=E },er)/\l.all named=true/\st<=d.stop/\E<=d.fail/\(er=0\/er=15\/er=50):=by
 cases o:l.all named with
 |false=>exact .inl ⟨by simp[call,o],rfl⟩
 |true=>
  refine .inr ?_
  cases hd:d.dead with
  |true=>exact⟨true,d.stop,d.fail,50,by simp[call,o,hd],rfl,B_ _,B_ _,.inr (.inr rfl)⟩
  |false=>
   by_cases z:0 < d.stop<;>by_cases C:0 < d.fail<;>by_cases h1:d.fail - 1=0
   all_goals first
    |exact⟨_,d.stop - 1,d.fail - 1,_,by simp only[call,o,hd,z,C,h1,if_true,if_false];rfl,rfl,o_,o_,by simp⟩
    |exact⟨_,d.stop - 1,d.fail,_,by simp only[call,o,hd,z,C,h1,if_true,if_false];rfl,rfl,o_,o_,by simp⟩
    |exact⟨_,d.stop,d.fail - 1,_,by simp only[call,o,hd,z,C,h1,if_true,if_false];rfl,rfl,o_,o_,by simp⟩
    |exact⟨_,d.stop,d.fail,_,by simp only[call,o,hd,z,C,h1,if_true,if_false];rfl,rfl,o_,o_,by simp⟩
theorem ny (d:Sd) (l:List (List UInt8)):(d.call l).1.names=d.names/\(d.call l).1.lasted=d.lasted/\(d.call l).1.files=d.files/\(d.call l).1.turns=d.turns/\(d.call l).1.quota=d.quota/\(d.call l).1.stop<=d.stop/\(d.call l).1.fail<=d.fail:=by
 rcases pz2 d l with ⟨h,_⟩|⟨o,st,z,er,h,_,h1,h2,_⟩ <;>rw[h]
 ·exact⟨rfl,rfl,rfl,rfl,rfl,B_ _,B_ _⟩
 ·exact⟨rfl,rfl,rfl,rfl,rfl,h1,h2⟩
theorem Wf.call (h:d.Wf) (l:List (List UInt8)):(d.call l).1.Wf:=by
 obtain⟨o,C,z,E,H,e6,e7⟩:=ny d l;obtain⟨I,J,a3,O,Q,U,a7,a8,b1,b2,b3,a9,b5⟩:=h;exact⟨by rw[H];exact I,by rw[z];exact J,by rw[o,z];exact a3,by rw[C,z];exact O,by rw[o];exact Q,by rw[C];exact U,by rw[o];exact a7,by rw[z,E];exact a8,by rw[o];exact b1,by rw[C];exact b2,by rw[E];exact b3,o_,o_⟩
theorem dz1 (d:Sd) (l:List (List UInt8)):(d.call l).1.load=d.load:=by
 obtain⟨C,E,o,z,H,_⟩:=ny d l;simp[load,o,z]
theorem uj4 (d:Sd) (l:List (List UInt8)):(d.call l).1.used=d.used:=by
 obtain⟨o,C,z,E,H,_⟩:=ny d l;simp[used,size,o,z]
theorem size_le (h:d.Wf) (i:Nat):d.size i<=250000:=by
 unfold size
 by_cases hi:i < d.files.length
 ·have:=(h.file i hi).2
  simp[t_,hi];exact this
 ·simp[t_,Nat.le_of_not_lt hi]
theorem sk5 (h:d.Wf):d.used<=16000000:=by
 have z:=h.most;have o:=size_le h;unfold used;have:∀m:Nm,(m.map fun p=>d.size p.2).sum<=m.length *250000:=by
  intro m
  induction m with
  |nil=>simp
  |cons p r C=>
   have:=o p.2;simp only[al_,bC_,r_];omega
 have:=this d.names;omega
theorem jx1.mono {m:Nm} {n k:Nat} (h:jx1 m n) (o:n<=k):jx1 m k:=fun p z=>L_ (h p z) o
theorem jx1.put {m:Nm} {n:Nat} (h:jx1 m n) (s:List UInt8) {i:Nat} (hi:i < n):jx1 (m.put s i) n:=by
 intro p o
 rcases Nm.qx.1 o with rfl|⟨o,_⟩
 ·exact hi
 ·exact h p o
theorem jx1.del {m:Nm} {n:Nat} (h:jx1 m n) (s:List UInt8):jx1 (m.del s) n:=fun p o=>h p (Nm.zq.1 o).1
theorem jx1.go {m:Nm} {n:Nat} (h:jx1 m n) (t:Tn) (o:t.kind=1->t.file < n):jx1 (t.go m) n:=by
 unfold Tn.go;split
 ·exact h.put _ (o ‹_›)
 ·split
  ·split
   ·rename_i i z
    exact(h.put _ (h _ (Nm.get_mem z))).del _
   ·exact h
  ·split
   ·exact h.del _
   ·exact h
theorem cv2 {m:Nm} (h:Nm.Apart m) (t:Tn):Nm.Apart (t.go m):=by
 unfold Tn.go;split
 ·exact Nm.cy1 h _ _
 ·split
  ·split
   ·exact Nm.uj1 (Nm.cy1 h _ _) _
   ·exact h
  ·split
   ·exact Nm.uj1 h _
   ·exact h
theorem qy4 {m:Nm} (h:Nm.Apart m) (t:Tn) (z:t.kind≠1) (o:t.a≠t.b):(t.go m).length<=m.length:=by
 unfold Tn.go;rw[if_neg z];split
 ·split
  ·rename_i i C
   have h1:((m.put t.b i).get t.a)=some i:=by rw[Nm.ry h o];exact C
   have h2:=Nm.mv1 h1;have h3:=Nm.dj1 m t.b i;omega
  ·exact B_ _
 ·split
  ·exact Nm.mj1 _ _
  ·exact B_ _
theorem py5 (q:Int) (h:q<=1099511627776):(new q).Wf:=
 ⟨by simp[new];omega,fun i h=>by simp[new]at h,fun p o=>(by cases o),fun p o=>(by cases o),bi_,bi_,by simp[new],fun t z=>(by cases z),fun p o=>(by cases o),fun p o=>(by cases o),fun t z=>(by cases z),by simp[new],by simp[new]⟩
theorem dz5 {s:List UInt8} (h:named s=true):s≠[]:=by
 intro e;subst e;simp[named]at h
theorem qw3 {l:List (List UInt8)} (h:(d.call l).2=0):l.all named=true:=by
 rcases pz2 d l with ⟨e,_⟩|⟨o,st,z,er,_,h1,_⟩
 ·rw[e]at h;cases h
 ·exact h1
theorem Wf.create (h:d.Wf) (s:List UInt8):(d.create s).1.Wf:=by
 have z:=h.call [s];obtain⟨e1,C,e3,e4,I,e6,e7⟩:=ny d [s];unfold Sd.create
 dsimp only
 split
 ·exact z
 ·rename_i J
  have H:named s=true:=by simpa using qw3 (Decidable.not_not.1 J)
  split
  ·exact z
  ·split
   ·exact z
   ·rename_i hn hm
    obtain⟨O,Q,a3,U,a5,a6,a7,a8,b1,b2,b3,a9,b6⟩:=h;have hl:=Nm.dj1 d.names s d.files.length;refine⟨by rw[I];exact O,fun i hi=>?_,?_,?_,Nm.cy1 a5 _ _,by rw[C];exact a6,by dsimp only;omega,?_,?_,by rw[C];exact b2,?_,by dsimp only;omega,by dsimp only;omega⟩
    ·dsimp only at hi ⊢
     rcases ad_ i d.files.length with h1|h1
     ·rw[aL_ h1];exact Q i h1
     ·rw[bL_ h1]
      simp
    ·exact(a3.mono s_).put _ s_
    ·dsimp only
     rw[C];exact U.mono s_
    ·intro t o
     simp only[q_,c_]at o
     rcases o with o|rfl
     ·have:=a8 t o
      simp only[e_,ax_];exact⟨o_,fun hk=>by have:=this.2 hk;omega⟩
     ·simp
    ·intro p E
     rcases Nm.qx.1 E with rfl|⟨E,_⟩
     ·exact H
     ·exact b1 p E
    ·intro t o
     simp only[q_,c_]at o
     rcases o with o|rfl
     ·exact b3 t o
     ·exact⟨H,fun e=>(by cases e),.inl rfl⟩
theorem Wf.qw (h:d.Wf) (i:Nat) (f:List UInt8×Nat) (h1:f.2<=f.1.length) (h2:f.1.length<=250000):({ d with files:=d.files.set i f }:Sd).Wf:=by
 obtain⟨z,C,a3,E,H,I,J,O,b1,b2,Q,U,o⟩:=h;refine⟨z,fun j hj=>?_,by simpa using a3,by simpa using E,H,I,J,by simpa using O,b1,b2,Q,U,o⟩;simp only[av_]at hj;simp only[bO_];split
 ·exact⟨h1,h2⟩
 ·exact C j hj
theorem ez2 (h:d.Wf) {i:Nat} (hi:i < d.files.length):(d.files.getD i ([],0)).2<=(d.files.getD i ([],0)).1.length/\(d.files.getD i ([],0)).1.length<=250000:=by
 have:=h.file i hi;simpa [t_,hi] using this
theorem Wf.append (h:d.Wf) (s b:List UInt8):(d.append s b).1.Wf:=by
 have o:=h.call [s];obtain⟨H,I,C,J,O,Q,U⟩:=ny d [s];unfold Sd.append
 dsimp only
 split
 ·exact o
 ·split
  ·exact o
  ·rename_i i E
   split
   ·exact o
   ·rename_i z
    split
    ·exact o
    ·have hi:=h.names _ (Nm.get_mem E)
     obtain⟨q1,q2⟩:(d.files.getD i ([],0)).2<=(d.files.getD i ([],0)).1.length/\(d.files.getD i ([],0)).1.length<=250000:=ez2 h hi;unfold Sd.size at z;have h2:=o.qw i ((d.files.getD i ([],0)).1++b,(d.files.getD i ([],0)).2) (by simp only[e_];omega) (by simp only[e_];omega)
     rwa [C]at h2
theorem Wf.sync (h:d.Wf) (s:List UInt8):(d.sync s).1.Wf:=by
 have o:=h.call [s];obtain⟨E,H,z,I,J,O,Q⟩:=ny d [s];unfold Sd.sync
 dsimp only
 split
 ·exact o
 ·split
  ·exact o
  ·rename_i i C
   have hi:i < d.files.length:=h.names _ (Nm.get_mem C);have:=ez2 h hi;have h2:=o.qw i ((d.files.getD i ([],0)).1,d.size i) (by simp[Sd.size]) this.2
   rwa [z]at h2
theorem vx3 {m:Nm} (h:∀p∈m,named p.1=true) (t:Tn) (z:named t.a=true/\(t.kind=2->named t.b=true)):∀p∈t.go m,named p.1=true:=by
 intro p o;unfold Tn.go at o;split at o
 ·rcases Nm.qx.1 o with rfl|⟨o,_⟩
  ·exact z.1
  ·exact h p o
 ·split at o
  ·split at o
   ·rcases Nm.qx.1 (Nm.zq.1 o).1 with rfl|⟨o,_⟩
    ·exact z.2 ‹_›
    ·exact h p o
   ·exact h p o
  ·split at o
   ·exact h p (Nm.zq.1 o).1
   ·exact h p o
theorem Wf.qj1 (h:d.Wf) (t:Tn) (z:t.kind≠1) (J:t.file=0) (C:t.a≠t.b) (E:named t.a=true/\(t.kind=2->named t.b=true)/\(t.kind=1\/t.kind=2\/t.kind=3)):({ d with names:=t.go d.names,turns:=d.turns++[t] }:Sd).Wf:=by
 obtain⟨O,Q,a3,U,I,a6,a7,a8,b1,b2,b3,a9,H⟩:=h;refine⟨O,Q,a3.go t (fun e=>absurd e z),U,cv2 I t,a6,g_ (qy4 I t z C) a7,fun u o=>?_,vx3 b1 t ⟨E.1,E.2.1⟩,b2,fun u o=>?_,a9,H⟩
 ·simp only[q_,c_]at o
  rcases o with o|rfl
  ·exact a8 u o
  ·exact⟨by rw[J];exact A_ _,fun e=>absurd e z⟩
 ·simp only[q_,c_]at o
  rcases o with o|rfl
  ·exact b3 u o
  ·exact E
theorem Wf.rename (h:d.Wf) (a b:List UInt8):(d.rename a b).1.Wf:=by
 have o:=h.call [a,b];obtain⟨E,J,O,H,Q,U,e7⟩:=ny d [a,b];unfold Sd.rename
 dsimp only
 split
 ·exact o
 ·rename_i I
  have C:named a=true/\named b=true:=by simpa using qw3 (Decidable.not_not.1 I)
  split
  ·exact o
  ·split
   ·exact o
   ·rename_i z
    have h2:=o.qj1 ⟨2,0,a,b⟩ s_ rfl z ⟨C.1,fun _=>C.2,.inr (.inl rfl)⟩
    rwa [E,H]at h2
theorem Wf.remove (h:d.Wf) (s:List UInt8):(d.remove s).1.Wf:=by
 have o:=h.call [s];obtain⟨C,I,J,E,O,Q,U⟩:=ny d [s];unfold Sd.remove
 dsimp only
 split
 ·exact o
 ·rename_i H
  split
  ·exact o
  ·have z:named s=true:=by simpa using qw3 (Decidable.not_not.1 H)
   have h2:=o.qj1 ⟨3,0,s,[]⟩ s_ rfl (dz5 z) ⟨z,fun e=>(by cases e),.inr (.inr rfl)⟩
   rwa [C,E]at h2
theorem Wf.ak (h:d.Wf):(d.ak).1.Wf:=by
 have H:=h.call [];obtain⟨o,U,e3,e4,e5,e6,e7⟩:=ny d [];unfold Sd.ak
 dsimp only
 split
 ·exact H
 ·obtain⟨I,J,a3,a4,z,a6,O,a8,b1,b2,b3,Q,C⟩:=H
  rw[o]at a3 z;rw[o]at b1;exact⟨I,J,by rw[o];exact a3,a3,by rw[o];exact z,z,O,fun t E=>(by cases E),by rw[o];exact b1,b1,fun t E=>(by cases E),Q,C⟩
end Sd
section
open It
structure Nd where
 x:It
 b:Nat
 tb:Nat
 h:Nat
 c:Nat
def nxt (h:Nat) (l:List Nd):Option Nd:=l.find? fun n=>decide (h < n.h)
def nxb (h:Nat) (l:List Nd):Option Nat:=(nxt h l).map (·.b)
variable {ns:List Nd} {i h q j k:Nat} {n:Nd} {x:It}
theorem fx5 (e:nxt h (ns.drop (i+1))=some n):∃k,i < k/\ns[k]?=some n/\h < n.h/\∀m n',i < m->m < k->ns[m]?=some n'->n'.h<=h:=by
 obtain⟨h1,o,bs,h2,h3⟩:=List.find?_eq_some_iff_append.1 e;have z:∀m,ns[i+1+m]?=(o++n::bs)[m]?:=fun m=>by rw[<-h2,aA_]
 refine⟨i+1+o.length,o_,by rw[z,af_ o_];simp,by simpa using h1,fun m n' h4 h5 C=>?_⟩;obtain⟨d,rfl⟩:∃d,m=i+1+d:=⟨m - (i+1),o_⟩;rw[z,K_ o_]at C;have:=h3 n' (u_ C);simpa using this
theorem iv5 (e:nxt h (ns.drop (i+1))=none):∀m n',i < m->ns[m]?=some n'->n'.h<=h:=by
 intro m n' h4 o;obtain⟨d,rfl⟩:∃d,m=i+1+d:=⟨m - (i+1),o_⟩;have z:n'∈ns.drop (i+1):=u_ (i:=d) (by rw[aA_];exact o);simpa using cp_.1 e n' z
structure Pred (ns:List Nd) (h q j:Nat):Prop where
 lt:j < q
 on:∃n,ns[j]?=some n/\h < n.h
 last:∀i n,j < i->i < q->ns[i]?=some n->n.h<=h
def its (ns:List Nd):List It:=(ns.drop 1).map (·.x)
theorem vq2 (k:Nat):(its ns)[k]?=(ns[k+1]?).map (·.x):=by
 unfold its;rw[b5_,aA_,Nat.add_comm]
theorem uv5 (C:yj (its ns)) (H:0 < k) (e:ns[k]?=some n):less n.x x=decide (k < pos (its ns) x+1):=by
 obtain⟨m,rfl⟩:∃m,k=m+1:=⟨k - 1,o_⟩;have o:(its ns)[m]?=some n.x:=by rw[vq2,e];rfl
 obtain⟨h1,h2⟩:=dy2 C x;have I:m < (its ns).length:=(C_.1 o).1
 cases z:less n.x x with
 |true=>
  refine(decide_eq_true ?_).symm;apply aU_;intro E;have:n.x∈(its ns).drop (pos (its ns) x):=u_ (i:=m - pos (its ns) x) (by rw[aA_,<-o];congr 1;omega);rw[h2]at this;have:=(ac_.1 this).2;rw[z]at this
  cases this
 |false=>
  refine(decide_eq_false fun E=>?_).symm;have:n.x∈(its ns).take (pos (its ns) x):=u_ (i:=m) (by rw[aY_,if_pos o_,o]);rw[h1]at this;have:=(ac_.1 this).2;rw[z]at this
  cases this
theorem Pred.low (o:Pred ns 0 q j) (E:q<=ns.length) (h1:∀n∈ns,1<=n.h):j+1=q:=by
 apply aU_;intro H;have C:=o.lt;have z:j+1 < ns.length:=o_
 have:=o.last (j+1) ns[j+1] o_ o_ (j_ z);have:=h1 _ (w_ z);omega
theorem zw3 {A R:List Nd} (o:∀n∈A,n.h<=h):nxb h (A++R)=nxb h R:=by
 unfold nxb nxt;rw[bj_,cp_.2 (fun n z=>by have:=o n z;simpa using this)];simp
theorem dj5 {A R o:List Nd} (z:∃n∈A,h < n.h):nxb h (A++R)=nxb h (A++o):=by
 unfold nxb nxt;rw[bj_,bj_];obtain⟨n,C,E⟩:=z
 cases e:A.find? fun n=>decide (h < n.h) with
 |none=>
  have:=cp_.1 e n C;simp at this;omega
 |some m=>simp
theorem yk3 {A R:List Nd} {n n':Nd} (z:n'.b=n.b) (o:h < n'.h↔h < n.h):nxb h (A++n'::R)=nxb h (A++n::R):=by
 unfold nxb nxt;rw[bj_,bj_]
 cases e:A.find? fun n=>decide (h < n.h) with
 |none=>
  simp only[Option.none_or,b1_]
  by_cases h1:h < n.h
  ·simp[h1,o.2 h1,z]
  ·have h2:¬h < n'.h:=fun h=>h1 (o.1 h)
   simp[h1,h2]
 |some m=>simp
theorem xv5 {A R:List Nd} {n:Nd} (o:n.h=0):nxb h (A++n::R)=nxb h (A++R):=by
 unfold nxb nxt;rw[bj_,bj_];simp[b1_,o]
theorem Pred.seg {A R:List Nd} (o:Pred (A++R) h A.length j):∀m∈A.drop (j+1),m.h<=h:=by
 intro m z;obtain⟨i,hi,rfl⟩:=aI_ z;rw[I_]at hi;rw[List.getElem_drop];exact o.last (j+1+i) _ o_ o_ (by rw[K_ o_];exact j_ o_)
theorem raise {A R:List Nd} {n n':Nd} (hj:Pred (A++n::R) h A.length j) (I:n.h=h) (z:n'.h=h+1) (E:n'.b=n.b) (i l:Nat) (m:Nd) (o:(A++n'::R)[i]?=some m) (Q:l < m.h):
  nxb l ((A++n'::R).drop (i+1))=if i=j/\l=h then some n.b else if i=A.length/\l=h then nxb l ((A++n::R).drop (j+1)) else nxb l ((A++n::R).drop (i+1)):=by
 rcases Nat.lt_trichotomy i A.length with h1|h1|h1
 ·have e:∀n:Nd,(A++n::R).drop (i+1)=A.drop (i+1)++n::R:=fun n=>by rw[au_ o_]
  rw[K_ h1]at o
  by_cases h2:l=h
  ·subst h2
   by_cases h3:i=j
   ·subst h3
    rw[if_pos ⟨rfl,rfl⟩,e,zw3 hj.seg];unfold nxb nxt;simp[b1_,z,E]
   ·rw[if_neg (by simp[h3]),if_neg o_,e,e]
    rcases co_ h3 with h4|h4
    ·obtain⟨p,H,J⟩:=hj.on
     have:=hj.lt;rw[K_ hj.lt]at H;exact dj5 ⟨p,u_ (i:=j - (i+1)) (by rw[aA_,<-H];congr 1;omega),J⟩
    ·exfalso
     have:=hj.last i m h4 h1 (by rw[K_ h1];exact o);omega
  ·rw[if_neg (by simp[h2]),if_neg (by simp[h2]),e,e]
   exact yk3 E o_
 ·subst h1
  have C:=hj.lt;rw[af_ l_,by_,gE0]at o;injection o with o;subst o;have e:∀n:Nd,(A++n::R).drop (A.length+1)=R:=fun n=>by
   rw[<-aW_,aT_];rfl
  by_cases h2:l=h
  ·subst h2
   rw[if_neg o_,if_pos ⟨rfl,rfl⟩,e];have O:(A++n::R).drop (j+1)=(A.drop (j+1)++[n])++R:=by rw[au_ o_];simp
   rw[O,zw3];intro m o
   rcases q_.1 o with h3|h3
   ·exact hj.seg m h3
   ·rw[c_.1 h3,I]
    exact B_ _
  ·rw[if_neg (by simp[h2]),if_neg (by simp[h2]),e,e]
 ·have C:=hj.lt
  have e:∀n:Nd,(A++n::R).drop (i+1)=R.drop (i - A.length):=fun n=>by
   rw[bP_,aC_ o_,D_];have:i+1 - A.length=(i - A.length)+1:=o_
   rw[this,bR_]
  rw[if_neg o_,if_neg o_,e,e]
theorem lw4 {A R:List Nd} {n:Nd} (z:0 < A.length):its (A++n::R)=(its (A++R)).take (A.length - 1)++n.x::(its (A++R)).drop (A.length - 1):=by
 unfold its;rw[au_ o_,au_ o_,aK_,aK_,al_];have o:((A.drop 1).map (·.x)).length=A.length - 1:=by simp
 rw[<-o,cJ_,aT_]
end
section
namespace Mn
theorem parse_append:∀(l r:List UInt8) (acc:Nat),parseUint10 acc (l++r)=match parseUint10 acc l with
  |.ok u=>parseUint10 u r
  |x=>x
 |[],r,acc=>by simp[parseUint10]
 |c::l,r,acc=>by
  simp only[U_,parseUint10];split
  ·split
   ·rfl
   ·split
    ·rfl
    ·exact parse_append l r _
  ·rfl
theorem lk1 (d:Nat) (h:d < 10):(UInt8.ofNat (48+d)).toNat=48+d:=by
 rw[UInt8.toNat_ofNat_of_lt'];show 48+d < 256
 omega
theorem iw3 (u:Nat) (h:u < 9223372036854775808):parseUint10 0 (decDigits u)=.ok u:=by
 induction u using Nat.strongRecOn with
 |_ u o=>
  rw[decDigits];split
  ·rename_i h1
   have e:=lk1 u h1;simp only[parseUint10,e];rw[if_pos o_,if_neg o_,if_neg o_]
   congr 1
   omega
  ·rename_i h1
   have e:=lk1 (u % 10) (bB_ _ o_);rw[parse_append,o (u / 10) o_ o_];simp only[parseUint10,e];rw[if_pos o_,if_neg o_,if_neg o_]
   congr 1
   omega
theorem oj2 (u:Nat):∀c∈decDigits u,48<=c.toNat/\c.toNat<=57:=by
 induction u using Nat.strongRecOn with
 |_ u z=>
  rw[decDigits];split
  ·rename_i h1
   intro c o;rw[c_.1 o,lk1 u h1];omega
  ·intro c o
   rcases q_.1 o with o|o
   ·exact z (u / 10) o_ c o
   ·rw[c_.1 o,lk1 _ (bB_ _ o_)]
    omega
theorem sx2 (u:Nat):∀k,u < 10 ^ (k+1)->1<=(decDigits u).length/\(decDigits u).length<=k+1:=by
 induction u using Nat.strongRecOn with
 |_ u o=>
  intro k z;rw[decDigits];split
  ·simp
  ·rcases k with _|k
   ·omega
   ·have:=o (u / 10) o_ k (by
     have h2:10 ^ (k+1+1)=10 ^ (k+1)*10:=Nat.pow_succ 10 (k+1);omega)
    simp only[e_,ax_];omega
theorem pv3 (u:Nat) (h:u < 9223372036854775808):atoiAll (decDigits u)=.ok (u:Int):=by
 have o:=(sx2 u 19 o_).1;have z:=oj2 u;have C:=iw3 u h
 cases hd:decDigits u with
 |nil=>rw[hd]at o;simp at o
 |cons c r=>
  rw[hd]at z C;have E:=z c s_;unfold atoiAll parseMag;simp only;rw[if_neg (by omega:¬(c.toNat=43\/c.toNat=45)),if_neg (by simp:¬(c::r=[])),C];simp only;rw[if_neg o_,if_neg o_,if_neg o_]
def kLog:List UInt8:=[108,111,103]
def kTab:List UInt8:=[116,97,98]
def kMan:List UInt8:=[109,97,110]
def isKind (k:List UInt8):Bool:=k==kLog||(k==kTab||k==kMan)
def fits (n:Int):Bool:=decide (1<=n) &&decide (n<=1073741824)
def name (kind:List UInt8) (n:Int):List UInt8:=if fits n&&isKind kind then kind++[46] ++itoa n else []
def okOf:NumEnd Int->Option Int
 |.ok v=>some v
 |_=>none
def number (s kind:List UInt8):Option Int:=
 if hasPrefix s (kind++[46]) then match okOf (atoiAll (s.drop (kind.length+1))) with
  |some v=>if name kind v=s then some v else none
  |none=>none
 else none
theorem gk1 {kind:List UInt8} {n:Int} (h:(fits n&&isKind kind)=true):name kind n=kind++[46] ++decDigits n.toNat:=by
 have h1:1<=n:=by simp[fits]at h;omega
 rw[name,if_pos h,itoa,if_neg o_]
theorem tz3 {s kind:List UInt8} {v:Int} (h:number s kind=some v):name kind v=s:=by
 unfold number at h;split at h
 ·split at h
  ·split at h
   ·injection h with h
    subst h
    assumption
   ·cases h
  ·cases h
 ·cases h
theorem pw3 {kind:List UInt8} {n:Int} (h:(fits n&&isKind kind)=true):number (name kind n) kind=some n:=by
 have h1:1<=n/\n<=1073741824:=by simp[fits]at h;omega
 have e:=gk1 h;unfold number;have o:hasPrefix (name kind n) (kind++[46])=true:=by
  rw[e,hasPrefix,List.isPrefixOf_iff_prefix];exact List.prefix_append _ _
 have hd:(name kind n).drop (kind.length+1)=decDigits n.toNat:=by
  rw[e,au_ s_];simp
 rw[if_pos o,hd,pv3 n.toNat o_];simp only[okOf];rw[if_pos (by rw[show ((n.toNat:Nat):Int)=n by omega])]
 congr 1
 omega
theorem xw2 {kind:List UInt8} {n:Int} (h:name kind n≠[]):kind.length=3/\5<=(name kind n).length/\(name kind n).length<=14:=by
 by_cases o:(fits n&&isKind kind)=true
 ·rw[gk1 o]
  have h1:1<=n/\n<=1073741824:=by simp[fits]at o;omega
  have z:=sx2 n.toNat 9 o_;have C:kind.length=3:=by
   simp only[N_,isKind,bU_,beq_iff_eq]at o
   rcases o.2 with h2|h2|h2<;>rw[h2] <;>rfl
  simp only[e_,ax_];omega
 ·exact absurd (by rw[name,if_neg o]) h
theorem sw2 {kind:List UInt8} {n:Int} (h:(fits n&&isKind kind)=true):Sd.named (name kind n)=true:=by
 have o:name kind n≠[]:=by rw[gk1 h];simp
 obtain⟨_,h2,h3⟩:=xw2 o;unfold Sd.named;rw[decide_eq_true o_,decide_eq_true o_,gk1 h,bT_,bT_];have z:kind.all Sd.okCh=true:=by
  simp only[N_,isKind,bU_,beq_iff_eq]at h
  rcases h.2 with h2|h2|h2<;>rw[h2] <;>decide
 have hd:(decDigits n.toNat).all Sd.okCh=true:=by
  rw[Y_];intro c C;have:=oj2 _ c C;simp[Sd.okCh,this]
 rw[z,hd];decide
end Mn
namespace It
def tks:Nat->List UInt8->Option (List Nat×List UInt8)
 |0,b=>some ([],b)
 |k+1,b=>match tks k b with
  |none=>none
  |some (ns,r)=>if (Pn.take r).2.2=0 then some (ns++[(Pn.take r).1],r.drop (Pn.take r).2.1) else none
def bj2:It:=⟨0,0,0,0,0⟩
theorem zv2 (b:List UInt8):take1 b=if b.length < 2 then (bj2,[],4) else
  if (Pn.take (b.drop 2)).2.2=0 then
   if (Pn.take ((b.drop 2).drop (Pn.take (b.drop 2)).2.1)).2.2=0 then
    if (Pn.take (((b.drop 2).drop (Pn.take (b.drop 2)).2.1).drop (Pn.take ((b.drop 2).drop (Pn.take (b.drop 2)).2.1)).2.1)).2.2=0 then
     (⟨Fr.u b 0,Fr.u b 1,(Pn.take (b.drop 2)).1,(Pn.take ((b.drop 2).drop (Pn.take (b.drop 2)).2.1)).1,rv1 (Pn.take (((b.drop 2).drop (Pn.take (b.drop 2)).2.1).drop (Pn.take ((b.drop 2).drop (Pn.take (b.drop 2)).2.1)).2.1)).1⟩,
      (((b.drop 2).drop (Pn.take (b.drop 2)).2.1).drop (Pn.take ((b.drop 2).drop (Pn.take (b.drop 2)).2.1)).2.1).drop (Pn.take (((b.drop 2).drop (Pn.take (b.drop 2)).2.1).drop (Pn.take ((b.drop 2).drop (Pn.take (b.drop 2)).2.1)).2.1)).2.1,0)
    else (bj2,[],(Pn.take (((b.drop 2).drop (Pn.take (b.drop 2)).2.1).drop (Pn.take ((b.drop 2).drop (Pn.take (b.drop 2)).2.1)).2.1)).2.2)
   else (bj2,[],(Pn.take ((b.drop 2).drop (Pn.take (b.drop 2)).2.1)).2.2)
  else (bj2,[],(Pn.take (b.drop 2)).2.2):=by
 unfold take1;split
 ·rfl
 ·generalize b.drop 2=o
  generalize hp:Pn.take o=p;obtain⟨t,C,E⟩:=p
  match E with
  |e+1=>rfl
  |0=>
   simp only[if_true];generalize o.drop C=z;generalize H:Pn.take z=I;obtain⟨v,J,O⟩:=I
   match O with
   |e+1=>rfl
   |0=>
    simp only[if_true];generalize z.drop J=Q;generalize U:Pn.take Q=p3;obtain⟨x,n3,e3⟩:=p3
    match e3 with
    |e+1=>rfl
    |0=>rfl
variable {b r:List UInt8} {ns:List Nat} {k:Nat}
theorem yj1:∀{k:Nat} {ns:List Nat} {r:List UInt8},tks k b=some (ns,r)->ns.length=k
 |0,ns,r,h=>by
  simp only[tks,aD_,bb_]at h;rw[<-h.1];rfl
 |k+1,ns,r,h=>by
  unfold tks at h;split at h
  ·cases h
  ·rename_i z q o
   split at h
   ·simp only[aD_,bb_]at h
    rw[<-h.1,e_,yj1 o];rfl
   ·cases h
theorem bw5 (h:tks k b=some (ns,r)) (o:(Pn.take r).2.2=0):tks (k+1) b=some (ns++[(Pn.take r).1],r.drop (Pn.take r).2.1):=by
 unfold tks;rw[h];simp only;rw[if_pos o]
theorem my1 {n:Nat} {q:List UInt8} (h:tks (k+1) b=some (ns,r)):∃o q,tks k b=some (o,q)/\(Pn.take q).2.2=0/\ns=o++[(Pn.take q).1]/\r=q.drop (Pn.take q).2.1:=by
 unfold tks at h;split at h
 ·cases h
 ·rename_i o q z
  split at h
  ·rename_i C
   simp only[aD_,bb_]at h;exact⟨o,q,z,C,h.1.symm,h.2.symm⟩
  ·cases h
theorem ww1 (h:tks 0 b=some (ns,r)):ns=[]/\r=b:=by
 simp only[tks,aD_,bb_]at h;exact⟨h.1.symm,h.2.symm⟩
theorem xv4 (h2:¬b.length < 2) (H:k < 3) (h:tks k (b.drop 2)=some (ns,r)) (o:(Pn.take r).2.2≠0):take1 b=(bj2,[],(Pn.take r).2.2):=by
 rw[zv2,if_neg h2];have e:k=0\/k=1\/k=2:=o_
 rcases e with rfl|rfl|rfl
 ·obtain⟨_,rfl⟩:=ww1 h
  rw[if_neg o]
 ·obtain⟨C,q,h1,z,_,rfl⟩:=my1 (n:=0) (q:=[]) h
  obtain⟨_,rfl⟩:=ww1 h1;rw[if_pos z,if_neg o]
 ·obtain⟨C,q,h1,z,_,rfl⟩:=my1 (n:=0) (q:=[]) h
  obtain⟨C,q,h3,E,_,rfl⟩:=my1 (n:=0) (q:=[]) h1;obtain⟨_,rfl⟩:=ww1 h3;rw[if_pos E,if_pos z,if_neg o]
theorem gk4 (h2:¬b.length < 2) (h:tks 3 (b.drop 2)=some (ns,r)):take1 b=(⟨Fr.u b 0,Fr.u b 1,ns.getD 0 0,ns.getD 1 0,rv1 (ns.getD 2 0)⟩,r,0):=by
 rw[zv2,if_neg h2];obtain⟨o,q,h1,z,rfl,rfl⟩:=my1 (n:=0) (q:=[]) h;obtain⟨o,q,h3,C,rfl,rfl⟩:=my1 (n:=0) (q:=[]) h1;obtain⟨o,q,h4,E,rfl,rfl⟩:=my1 (n:=0) (q:=[]) h3;obtain⟨rfl,rfl⟩:=ww1 h4;rw[if_pos E,if_pos C,if_pos z];rfl
theorem bv4 (n:Nat) (b:List UInt8) (out:List It):takes (n+1) b out=if (take1 b).2.2=0 then takes n (take1 b).2.1 (out++[(take1 b).1]) else ([],[],(take1 b).2.2):=by
 rw[takes];generalize take1 b=p;obtain⟨x,s,e⟩:=p
 match e with
 |0=>rfl
 |e+1=>rfl
theorem vy5 (b:List UInt8):read b=if (Pn.take b).2.2=0 then (if 2000 < (Pn.take b).1 then ([],2) else if (takes (Pn.take b).1 (b.drop (Pn.take b).2.1) []).2.2=0 then (if (takes (Pn.take b).1 (b.drop (Pn.take b).2.1) []).2.1=[]/\(takes (Pn.take b).1 (b.drop (Pn.take b).2.1) []).1.all ok=true then ((takes (Pn.take b).1 (b.drop (Pn.take b).2.1) []).1,0) else ([],3)) else ([],(takes (Pn.take b).1 (b.drop (Pn.take b).2.1) []).2.2)) else ([],(Pn.take b).2.2):=by
 unfold read;generalize Pn.take b=p;obtain⟨n,s,e⟩:=p
 match e with
 |e+1=>rfl
 |0=>
  simp only[if_true];generalize takes n (b.drop s) []=q;obtain⟨o,r,e⟩:=q
  match e with
  |0=>rfl
  |e+1=>rfl
end It
namespace Once
theorem disable (w:World):(callFunc 308 #[]).run prog w=.ok (.value (.tuple #[])) w:=run_call_mark0 func308 (by kernel_rfl) (by kernel_rfl) (by kernel_rfl) .disable (by kernel_rfl) w
theorem enable (w:World):(callFunc 310 #[]).run prog w=.ok (.value (.tuple #[])) w:=run_call_mark0 func310 (by kernel_rfl) (by kernel_rfl) (by kernel_rfl) .enable (by kernel_rfl) w
theorem acquire (a:Addr) (w:World):(callFunc 311 #[.pointer (some a)]).run prog w=.ok (.value (.tuple #[])) w:=run_call_marked func311 (by kernel_rfl) (by kernel_rfl) (by kernel_rfl) .acquire (by kernel_rfl) a w
theorem releaseMerge (a:Addr) (w:World):(callFunc 313 #[.pointer (some a)]).run prog w=.ok (.value (.tuple #[])) w:=run_call_marked func313 (by kernel_rfl) (by kernel_rfl) (by kernel_rfl) .releaseMerge (by kernel_rfl) a w
theorem store_deferred (a:Addr) (x:Value) (u:FrameMode) (w:World) (H:w.cell? a=some x) (I:w.frozen? a=false):
  CallsD prog 265 #[.pointer (some a),.bool true] u w fun e C w'=>C=u/\(e=.returned (.tuple #[])/\w'=w.drew.setCell a (.int .u32 1)):=by
 have o:w.drew.cell? a=some x:=by go_simp
 have z:w.drew.frozen? a=false:=by go_simp
 have E:=run_call_store (P:=prog) func294 (by kernel_rfl) (by kernel_rfl) (by kernel_rfl) (by kernel_rfl) (k:=.u32) (y:=1) o z;go_enter_d func265,ntmps265;go_wp2
 go_region_calls
 all_goals (go_end0;exact⟨rfl,rfl⟩)
theorem unlock_deferred (a:Addr) (u:FrameMode) (w:World) (z:w.cell? a=some (.int .i32 1)) (E:w.frozen? a=false):
  CallsD prog 264 #[.pointer (some a)] u w fun e H w'=>H=u/\(e=.returned (.tuple #[])/\w'=w.setCell a (.int .i32 0)):=by
 have hd:=disable;have I:=enable;have J:=releaseMerge;have C:=run_call_add (P:=prog) func314 (by kernel_rfl) (by kernel_rfl) (by kernel_rfl) .i32 (by kernel_rfl) (y:=-1) (s:=0) z E (by simp[go_sem];rfl)
 first|have o:=run_convert_to_unsafe (P:=prog) (src:=377) (dst:=237) underlying377 underlying237 (by kernel_rfl) z|have o:=run_convert_to_unsafe (P:=prog) (src:=362) (dst:=237) underlying362 underlying237 (by kernel_rfl) z|have o:=run_convert_to_unsafe (P:=prog) (src:=418) (dst:=237) underlying418 underlying237 (by kernel_rfl) z|have o:=run_convert_to_unsafe (P:=prog) (src:=490) (dst:=237) underlying490 underlying237 (by kernel_rfl) z
 go_enter_d func264,ntmps264;go_wp2
 go_end0
 go_wp2
 go_end0
 exact⟨rfl,rfl⟩
theorem lock_free (a:Addr) (w:World) (C:w.cell? a=some (.int .i32 0)) (H:w.frozen? a=false):
  Calls prog 263 #[.pointer (some a)] w fun e w'=>e=.returned (.tuple #[])/\w'=w.setCell a (.int .i32 1):=by
 have hd:=disable;have I:=enable;have J:=acquire;have E:=run_call_cas_hit (P:=prog) func309 (by kernel_rfl) (by kernel_rfl) (by kernel_rfl) .i32 (by kernel_rfl) (y:=1) C H;have o:(w.setCell a (.int .i32 1)).cell? a=some (.int .i32 1):=aV_ w a _ C
 first|have z:=run_convert_to_unsafe (P:=prog) (src:=377) (dst:=237) underlying377 underlying237 (by kernel_rfl) o|have z:=run_convert_to_unsafe (P:=prog) (src:=362) (dst:=237) underlying362 underlying237 (by kernel_rfl) o|have z:=run_convert_to_unsafe (P:=prog) (src:=418) (dst:=237) underlying418 underlying237 (by kernel_rfl) o|have z:=run_convert_to_unsafe (P:=prog) (src:=490) (dst:=237) underlying490 underlying237 (by kernel_rfl) o
 go_enter func263,ntmps263;go_wp2
 first|go_end0|(simp only[Exit.inBlock,Exit.then];refine bodyPost_ret (results_none rfl _ _ _) rfl ?_)|refine bodyPost_ret (results_none rfl _ _ _) rfl ?_
 go_wp2
 go_end0
 exact⟨rfl,rfl⟩
end Once
namespace Once
theorem slow_any (b:Nat) (pl:Addr) (o:¬b=pl.block) (C:Value) (w:World) (I:w.cell? pl=some (.pointer (some b)))
  (E:w.cell? (b,9)=some (.int .u32 0)) (h1:w.cell? (b,10)=some (.int .i32 0)) (h3:w.cell? (b,12)=some C)
  (f0:w.frozen? (b,9)=false) (f1:w.frozen? (b,10)=false) (f3:w.frozen? (b,12)=false):
  Calls prog 237 #[.pointer (some ⟨b,9,none⟩),.func (.func 230) #[] #[.pointer (some pl)]] w fun e w'=>e=.returned (.tuple #[])/\
   w'=(((w.setCell (b,10) (.int .i32 1)).setCell (b,12) (.bool true)).drew.setCell (b,9) (.int .u32 1)).setCell (b,10) (.int .i32 0):=by
 have U:=run_call_load (P:=prog) func262 (by kernel_rfl) (by kernel_rfl) (by kernel_rfl) .u32 (by kernel_rfl) (w:=w.setCell (b,10) (.int .i32 1)) (a:=⟨b,9,none⟩) (x:=0) ((V_ _ ⟨b,10,none⟩ ⟨b,9,none⟩ _ s_).trans E);have J:(w.setCell (b,10) (.int .i32 1)).cell? pl=some (.pointer (some b)):=(V_ _ ⟨b,10,none⟩ pl _ (fun h=>o (by rw[<-h]))).trans I;have O:(w.setCell (b,10) (.int .i32 1)).cell? (b,12)=some C:=(V_ _ ⟨b,10,none⟩ ⟨b,12,none⟩ _ s_).trans h3;have H:∀(x:Bool) (w:World),(Op.unary .not (.bool x)).run prog w=.ok (.bool (!x)) w:=fun _ _=>rfl;go_enter_defers func237,ntmps237;go_wp2_with (go_at_call 263;refine(lock_free ⟨b,10,none⟩ _ (by go_simp) (by go_simp)).mono ?_;rintro e w' ⟨rfl,rfl⟩);go_wp2
 go_end0
 go_wp2;refine leaves_cons (f:=265) (args:=#[.pointer (some ⟨b,9,none⟩),.bool true]) s_ (by simp[go_sem]) ?_;refine(store_deferred ⟨b,9,none⟩ (.int .u32 0) .returning _ ?_ (by simp[f0])).mono ?_
 ·exact(V_ _ ⟨b,12,none⟩ ⟨b,9,none⟩ _ s_).trans ((V_ _ ⟨b,10,none⟩ ⟨b,9,none⟩ _ s_).trans E)
 rintro e Q z ⟨rfl,rfl,rfl⟩;refine leaves_cons (f:=264) (args:=#[.pointer (some ⟨b,10,none⟩)]) (by simp[settle]) (by simp[go_sem]) ?_;refine(unlock_deferred ⟨b,10,none⟩ _ _ ?_ (by simp[f1])).mono ?_
 ·refine(V_ _ ⟨b,9,none⟩ ⟨b,10,none⟩ _ s_).trans ?_
  rw[World.cell?_drew];exact(V_ _ ⟨b,12,none⟩ ⟨b,10,none⟩ _ s_).trans (aV_ w _ _ h1)
 rintro e Q z ⟨rfl,rfl,rfl⟩;simp[Leaves,settle,results,results237]
theorem do_first (b:Nat) (pl:Addr) (o:¬b=pl.block) (z:Value) (w:World) (H:w.cell? pl=some (.pointer (some b)))
  (C:w.cell? (b,9)=some (.int .u32 0)) (h1:w.cell? (b,10)=some (.int .i32 0)) (h3:w.cell? (b,12)=some z)
  (f0:w.frozen? (b,9)=false) (f1:w.frozen? (b,10)=false) (f3:w.frozen? (b,12)=false):
  Calls prog 190 #[.pointer (some ⟨b,9,none⟩),.func (.func 230) #[] #[.pointer (some pl)]] w fun e w'=>e=.returned (.tuple #[])/\w'=((((w.setCell (b,10) (.int .i32 1)).setCell (b,12) (.bool true)).drew.setCell (b,9) (.int .u32 1)).setCell (b,10) (.int .i32 0)):=by
 have I:=run_call_load (P:=prog) func262 (by kernel_rfl) (by kernel_rfl) (by kernel_rfl) .u32 (by kernel_rfl) C;have E:∀(x:Bool) (w:World),(Op.unary .not (.bool x)).run prog w=.ok (.bool (!x)) w:=fun _ _=>rfl;go_enter func190,ntmps190;go_wp2_with (first|(go_at_call 237;refine(slow_any b pl o z _ H C h1 h3 f0 f1 f3).mono ?_;rintro e w' ⟨rfl,rfl⟩)|(go_at_call 236;go_in))
 go_end0
 exact⟨rfl,rfl⟩
theorem do_done (a:Addr) (d:Int) (hd:¬d=0) (fv:Value) (w:World) (z:w.cell? a=some (.int .u32 d)):
  Calls prog 190 #[.pointer (some a),fv] w fun e w'=>e=.returned (.tuple #[])/\w'=w:=by
 have E:=run_call_load (P:=prog) func262 (by kernel_rfl) (by kernel_rfl) (by kernel_rfl) .u32 (by kernel_rfl) z;have o:∀(x:Bool) (w:World),(Op.unary .not (.bool x)).run prog w=.ok (.bool (!x)) w:=fun _ _=>rfl;have C:(d !=0)=true:=by simp[hd]
 go_enter func190,ntmps190;go_wp2
 go_end0
 exact⟨rfl,rfl⟩
end Once
namespace Sonce
open Once
theorem slow_any (b:Nat) (pl:Addr) (o:¬b=pl.block) (C:Value) (w:World) (I:w.cell? pl=some (.pointer (some b)))
  (E:w.cell? (b,7)=some (.int .u32 0)) (h1:w.cell? (b,8)=some (.int .i32 0)) (h3:w.cell? (b,10)=some C)
  (f0:w.frozen? (b,7)=false) (f1:w.frozen? (b,8)=false) (f3:w.frozen? (b,10)=false):
  Calls prog 237 #[.pointer (some ⟨b,7,none⟩),.func (.func 191) #[] #[.pointer (some pl)]] w fun e w'=>e=.returned (.tuple #[])/\
   w'=(((w.setCell (b,8) (.int .i32 1)).setCell (b,10) (.bool true)).drew.setCell (b,7) (.int .u32 1)).setCell (b,8) (.int .i32 0):=by
 have U:=run_call_load (P:=prog) func262 (by kernel_rfl) (by kernel_rfl) (by kernel_rfl) .u32 (by kernel_rfl) (w:=w.setCell (b,8) (.int .i32 1)) (a:=⟨b,7,none⟩) (x:=0) ((V_ _ ⟨b,8,none⟩ ⟨b,7,none⟩ _ s_).trans E);have J:(w.setCell (b,8) (.int .i32 1)).cell? pl=some (.pointer (some b)):=(V_ _ ⟨b,8,none⟩ pl _ (fun h=>o (by rw[<-h]))).trans I;have O:(w.setCell (b,8) (.int .i32 1)).cell? (b,10)=some C:=(V_ _ ⟨b,8,none⟩ ⟨b,10,none⟩ _ s_).trans h3;have H:∀(x:Bool) (w:World),(Op.unary .not (.bool x)).run prog w=.ok (.bool (!x)) w:=fun _ _=>rfl;go_enter_defers func237,ntmps237;go_wp2_with (go_at_call 263;refine(lock_free ⟨b,8,none⟩ _ (by go_simp) (by go_simp)).mono ?_;rintro e w' ⟨rfl,rfl⟩);go_wp2
 go_end0
 go_wp2;refine leaves_cons (f:=265) (args:=#[.pointer (some ⟨b,7,none⟩),.bool true]) s_ (by simp[go_sem]) ?_;refine(store_deferred ⟨b,7,none⟩ (.int .u32 0) .returning _ ?_ (by simp[f0])).mono ?_
 ·exact(V_ _ ⟨b,10,none⟩ ⟨b,7,none⟩ _ s_).trans ((V_ _ ⟨b,8,none⟩ ⟨b,7,none⟩ _ s_).trans E)
 rintro e Q z ⟨rfl,rfl,rfl⟩;refine leaves_cons (f:=264) (args:=#[.pointer (some ⟨b,8,none⟩)]) (by simp[settle]) (by simp[go_sem]) ?_;refine(unlock_deferred ⟨b,8,none⟩ _ _ ?_ (by simp[f1])).mono ?_
 ·refine(V_ _ ⟨b,7,none⟩ ⟨b,8,none⟩ _ s_).trans ?_
  rw[World.cell?_drew];exact(V_ _ ⟨b,10,none⟩ ⟨b,8,none⟩ _ s_).trans (aV_ w _ _ h1)
 rintro e Q z ⟨rfl,rfl,rfl⟩;simp[Leaves,settle,results,results237]
theorem do_first (b:Nat) (pl:Addr) (o:¬b=pl.block) (z:Value) (w:World) (H:w.cell? pl=some (.pointer (some b)))
  (C:w.cell? (b,7)=some (.int .u32 0)) (h1:w.cell? (b,8)=some (.int .i32 0)) (h3:w.cell? (b,10)=some z)
  (f0:w.frozen? (b,7)=false) (f1:w.frozen? (b,8)=false) (f3:w.frozen? (b,10)=false):
  Calls prog 190 #[.pointer (some ⟨b,7,none⟩),.func (.func 191) #[] #[.pointer (some pl)]] w fun e w'=>e=.returned (.tuple #[])/\w'=((((w.setCell (b,8) (.int .i32 1)).setCell (b,10) (.bool true)).drew.setCell (b,7) (.int .u32 1)).setCell (b,8) (.int .i32 0)):=by
 have I:=run_call_load (P:=prog) func262 (by kernel_rfl) (by kernel_rfl) (by kernel_rfl) .u32 (by kernel_rfl) C;have E:∀(x:Bool) (w:World),(Op.unary .not (.bool x)).run prog w=.ok (.bool (!x)) w:=fun _ _=>rfl;go_enter func190,ntmps190;go_wp2_with (first|(go_at_call 237;refine(slow_any b pl o z _ H C h1 h3 f0 f1 f3).mono ?_;rintro e w' ⟨rfl,rfl⟩)|(go_at_call 236;go_in))
 go_end0
 exact⟨rfl,rfl⟩
end Sonce
structure Ct where
 dead:Bool
 stop:Nat
 fail:Nat
def Ct.call (c:Ct):Ct×Nat:=
 if c.dead=true then (c,50)
 else if 0 < c.fail then (⟨if 0 < c.stop then decide (c.stop - 1=0) else c.dead,if 0 < c.stop then c.stop - 1 else c.stop,c.fail - 1⟩,if c.fail - 1=0 then 15 else 0)
 else (⟨if 0 < c.stop then decide (c.stop - 1=0) else c.dead,if 0 < c.stop then c.stop - 1 else c.stop,c.fail⟩,0)
structure Co where
 quota:Nat
 files:List (List UInt8×Nat)
 names:Nm
 lasted:Nm
 turns:List Tn
def Sd.co (d:Sd):Co:=⟨d.quota,d.files,d.names,d.lasted,d.turns⟩
def Sd.ct (d:Sd):Ct:=⟨d.dead,d.stop,d.fail⟩
inductive Ct.Reach:Ct->Ct->Prop
 |refl (a:Ct):Ct.Reach a a
 |step {a b:Ct}:Ct.Reach a b->Ct.Reach a b.call.1
theorem Ct.Reach.trans {a b c:Ct} (h:Ct.Reach a b) (k:Ct.Reach b c):Ct.Reach a c:=by
 induction k with
 |refl=>exact h
 |step _ o=>exact o.step
theorem Ct.Reach.one (a:Ct):Ct.Reach a a.call.1:=(Ct.Reach.refl a).step
def Ct.hale (c:Ct):Prop:=c.dead=false/\c.stop=0/\c.fail=0
theorem Ct.hale.call {c:Ct} (h:c.hale):c.call=(c,0):=by
 obtain⟨d,s,f⟩:=c;obtain⟨h1,h2,h3⟩:=h;simp only at h1 h2 h3;subst h1 h2 h3;rfl
theorem Ct.hale.reach {a b:Ct} (h:a.hale) (r:Ct.Reach a b):b=a:=by
 induction r with
 |refl=>rfl
 |step _ o=>rw[o,h.call]
namespace Co
variable (c:Co)
def create (s:List UInt8):Co:={ c with names:=c.names.put s c.files.length,turns:=c.turns++[⟨1,c.files.length,s,[]⟩],files:=c.files++[([],0)] }
def qw (i:Nat) (f:List UInt8×Nat):Co:={ c with files:=c.files.set i f }
def rename (a b:List UInt8):Co:={ c with names:=Tn.go ⟨2,0,a,b⟩ c.names,turns:=c.turns++[⟨2,0,a,b⟩] }
def remove (s:List UInt8):Co:={ c with names:=Tn.go ⟨3,0,s,[]⟩ c.names,turns:=c.turns++[⟨3,0,s,[]⟩] }
def ak:Co:={ c with lasted:=c.names,turns:=[] }
def total:Nat:=(c.files.map fun f=>f.1.length).sum
def made (l:List Tn):List Nat:=(l.filter fun t=>decide (t.kind=1)).map (·.file)
structure In:Prop where
 apart:Nm.Apart c.names
 lapart:Nm.Apart c.lasted
 lead:Sd.jx1 c.names c.files.length
 llead:Sd.jx1 c.lasted c.files.length
 inj:∀p∈c.names,∀q∈c.names,p.2=q.2->p.1=q.1
 linj:∀p∈c.lasted,∀q∈c.lasted,p.2=q.2->p.1=q.1
 nodup:(made c.turns).Nodup
 fresh:∀i∈made c.turns,i < c.files.length/\∀p∈c.lasted,p.2≠i
 whole:c.names=c.turns.foldl (fun m u=>u.go m) c.lasted
 tb:∀u∈c.turns,u.b.length<=16
def most:Nat:=c.lasted.length+(made c.turns).length
def Now (s t:List UInt8) (l:Nat):Prop:=∃i,c.names.get s=some i/\c.files[i]?=some (t,l)
def off (s:List UInt8) (t:Tn):Prop:=t.a≠s/\(t.kind=2->t.b≠s)
def Held (s t:List UInt8) (l:Nat):Prop:=∃i,c.names.get s=some i/\c.lasted.get s=some i/\c.files[i]?=some (t,l)/\∀u∈c.turns,off s u
end Co
open Co
variable {c:Co} {s t b:List UInt8} {l:Nat}
theorem go_get {m:Nm} (h:Nm.Apart m) {u:Tn} (o:off s u):(u.go m).get s=m.get s:=by
 unfold Tn.go;split
 ·exact Nm.ry h o.1.symm _
 ·split
  ·split
   ·rename_i z _ i _
    have h2:=o.2 z;rw[Nm.dq1 (Nm.cy1 h _ _) o.1.symm,Nm.ry h h2.symm]
   ·rfl
  ·split
   ·exact Nm.dq1 h o.1.symm
   ·rfl
theorem go_mem {m:Nm} {u:Tn} {p:List UInt8×Nat} (o:p∈u.go m):(u.kind=1/\p=(u.a,u.file))\/∃q∈m,q.2=p.2:=by
 unfold Tn.go at o;split at o
 ·rcases Nm.qx.1 o with rfl|⟨h1,_⟩
  ·exact .inl ⟨‹_›,rfl⟩
  ·exact .inr ⟨p,h1,rfl⟩
 ·split at o
  ·split at o
   ·rename_i z
    obtain⟨h1,_⟩:=Nm.zq.1 o
    rcases Nm.qx.1 h1 with rfl|⟨h2,_⟩
    ·exact .inr ⟨_,Nm.get_mem z,rfl⟩
    ·exact .inr ⟨p,h2,rfl⟩
   ·exact .inr ⟨p,o,rfl⟩
  ·split at o
   ·exact .inr ⟨p,(Nm.zq.1 o).1,rfl⟩
   ·exact .inr ⟨p,o,rfl⟩
theorem pk5 {m:Nm} {u:Tn} (h:∀p∈m,∀q∈m,p.2=q.2->p.1=q.1) (hf:u.kind=1->∀p∈m,p.2≠u.file):∀p∈u.go m,∀q∈u.go m,p.2=q.2->p.1=q.1:=by
 intro p z q o C;unfold Tn.go at z o;split at z
 ·rename_i I
  rw[if_pos I]at o
  rcases Nm.qx.1 z with rfl|⟨z,_⟩ <;>rcases Nm.qx.1 o with rfl|⟨o,_⟩
  ·rfl
  ·exact absurd C.symm (hf I q o)
  ·exact absurd C (hf I p z)
  ·exact h p z q o C
 ·rename_i I
  rw[if_neg I]at o;split at z
  ·rename_i E
   rw[if_pos E]at o
   cases O:m.get u.a with
   |none=>rw[O]at z o;exact h p z q o C
   |some i=>
    rw[O]at z o;simp only at z o;obtain⟨z,Q⟩:=Nm.zq.1 z;obtain⟨o,U⟩:=Nm.zq.1 o;have J:=Nm.get_mem O
    rcases Nm.qx.1 z with rfl|⟨z,_⟩ <;>rcases Nm.qx.1 o with rfl|⟨o,_⟩
    ·rfl
    ·exact absurd (h _ J q o (by simpa using C)).symm U
    ·exact absurd (h p z _ J (by simpa using C)) Q
    ·exact h p z q o C
  ·rename_i E
   rw[if_neg E]at o;split at z
   ·rename_i H
    rw[if_pos H]at o;exact h p (Nm.zq.1 z).1 q (Nm.zq.1 o).1 C
   ·rename_i H
    rw[if_neg H]at o;exact h p z q o C
theorem ck3 {m:Nm} (h:Nm.Apart m) (u:Tn):(u.go m).length<=m.length+if u.kind=1 then 1 else 0:=by
 unfold Tn.go;split
 ·exact Nm.dj1 _ _ _
 ·split
  ·cases C:m.get u.a with
   |none=>simp
   |some i=>
    simp only[bp_]
    by_cases o:u.a=u.b
    ·rw[o]
     have h1:((m.put u.b i).del u.b).length < (m.put u.b i).length:=Nm.mv1 (Nm.cj1 h _ _);have:=Nm.dj1 m u.b i;omega
    ·have z:(m.put u.b i).get u.a=some i:=by rw[Nm.ry h o];exact C
     have h1:=Nm.mv1 z;have:=Nm.dj1 m u.b i;omega
  ·split
   ·exact Nm.mj1 _ _
   ·simp
theorem zk (a b:List Tn):made (a++b)=made a++made b:=by simp[made]
namespace Co
theorem Held.now (h:c.Held s t l):c.Now s t l:=let ⟨i,a,_,d,_⟩:=h;⟨i,a,d⟩
theorem In.create (h:c.In) (O:c.names.get s=none):(c.create s).In:=by
 have H:made (c.create s).turns=made c.turns++[c.files.length]:=by rw[Co.create,zk];rfl
 refine⟨Nm.cy1 h.apart _ _,h.lapart,?_,fun p o=>?_,?_,h.linj,?_,?_,by simp only[Co.create];rw[aS_,<-h.whole];rfl,fun u z=>by
  rcases q_.1 z with z|z
  ·exact h.tb u z
  ·rw[c_.1 z];exact A_ _⟩
 ·intro p o
  simp only[Co.create,e_,r_,R_]
  rcases Nm.qx.1 o with rfl|⟨o,_⟩
  ·simp
  ·have:=h.lead p o;omega
 ·simp only[Co.create,e_,r_,R_]
  have:=h.llead p o;omega
 ·intro p o q C E
  rcases Nm.qx.1 o with rfl|⟨o,_⟩ <;>rcases Nm.qx.1 C with rfl|⟨C,_⟩
  ·rfl
  ·have:=h.lead q C;simp only at E;omega
  ·have:=h.lead p o;simp only at E;omega
  ·exact h.inj p o q C E
 ·rw[H]
  refine aE_.2 ⟨h.nodup,by simp,fun x I y J e=>?_⟩;have:=(h.fresh x I).1;simp at J;omega
 ·rw[H]
  intro i hi;simp only[Co.create,e_,r_,R_]
  rcases q_.1 hi with hi|hi
  ·obtain⟨a,b⟩:=h.fresh i hi
   exact⟨o_,b⟩
  ·simp only[c_]at hi
   subst hi;exact⟨o_,fun p o e=>by have:=h.llead p o;omega⟩
theorem jy2 (c:Co) (s:List UInt8):(c.create s).most=c.most+1:=by
 unfold most;rw[Co.create,zk];simp[made];omega
theorem zy1 (c:Co) (s:List UInt8):(c.create s).total=c.total:=by simp[total,Co.create]
theorem ex4 (h:c.In) (s:List UInt8):(c.create s).Now s [] 0:=⟨c.files.length,Nm.cj1 h.apart _ _,by simp[Co.create]⟩
theorem Now.create {u:List UInt8} (h:c.In) (k:c.Now s t l) (o:s≠u):(c.create u).Now s t l:=by
 obtain⟨i,a,b⟩:=k;exact⟨i,(Nm.ry h.apart o _).trans a,by rw[Co.create];simp only;rw[K_ (C_.1 b).1];exact b⟩
theorem Held.create {u:List UInt8} (h:c.In) (k:c.Held s t l) (o:s≠u):(c.create u).Held s t l:=by
 obtain⟨i,a,b,d,e⟩:=k;refine⟨i,(Nm.ry h.apart o _).trans a,b,by rw[Co.create];simp only;rw[K_ (C_.1 d).1];exact d,fun v z=>?_⟩
 rcases q_.1 z with z|z
 ·exact e v z
 ·rw[c_.1 z]
  exact⟨o.symm,fun h=>by cases h⟩
theorem ev4 {u:List UInt8} (h:c.In) (o:s≠u):(c.create u).names.get s=c.names.get s:=Nm.ry h.apart o _
theorem In.qw (h:c.In) (i:Nat) (f:List UInt8×Nat):(c.qw i f).In:=
 ⟨h.apart,h.lapart,by simpa [Co.qw] using h.lead,by simpa [Co.qw] using h.llead,h.inj,h.linj,h.nodup,by simpa [Co.qw] using h.fresh,h.whole,h.tb⟩
theorem ty5 (l:List Nat) (i x:Nat) (hi:i < l.length):(l.set i x).sum+l[i]=l.sum+x:=by
 induction l generalizing i with
 |nil=>simp at hi
 |cons a r o=>
  cases i with
  |zero=>simp;omega
  |succ i=>
   have:=o i (by simpa using hi);simp only[Q_,bC_,List.getElem_cons_succ];omega
theorem tx1 {i:Nat} {f g:List UInt8×Nat} (o:c.files[i]?=some g):(c.qw i f).total+g.1.length=c.total+f.1.length:=by
 obtain⟨hi,e⟩:=C_.1 o;unfold total Co.qw;simp only[ck_];have:=ty5 (c.files.map fun f=>f.1.length) i f.1.length (by simpa using hi);simpa [e] using this
theorem Now.set {i:Nat} (o:c.names.get s=some i) {f:List UInt8×Nat} (hi:i < c.files.length):(c.qw i f).Now s f.1 f.2:=⟨i,o,by simp[Co.qw,hi]⟩
theorem Now.other {u:List UInt8} {i:Nat} (h:c.In) (C:c.names.get u=some i) (o:s≠u) (k:c.Now s t l) (f:List UInt8×Nat):(c.qw i f).Now s t l:=by
 obtain⟨j,a,b⟩:=k;have z:i≠j:=fun e=>o (h.inj _ (Nm.get_mem a) _ (Nm.get_mem C) (by simp[e]));exact⟨j,a,by simp only[Co.qw];rw[a3_ z];exact b⟩
theorem Held.other {u:List UInt8} {i:Nat} (h:c.In) (C:c.names.get u=some i) (o:s≠u) (k:c.Held s t l) (f:List UInt8×Nat):(c.qw i f).Held s t l:=by
 obtain⟨j,a,E,b,e⟩:=k;have z:i≠j:=fun e=>o (h.inj _ (Nm.get_mem a) _ (Nm.get_mem C) (by simp[e]));exact⟨j,a,E,by simp only[Co.qw];rw[a3_ z];exact b,e⟩
theorem In.turn {u:Tn} (h:c.In) (z:u.kind≠1) (C:u.b.length<=16):({ c with names:=u.go c.names,turns:=c.turns++[u] }:Co).In:=by
 have E:made (c.turns++[u])=made c.turns:=by rw[zk];simp[made,z]
 refine⟨Sd.cv2 h.apart u,h.lapart,Sd.jx1.go h.lead u (fun e=>absurd e z),h.llead,pk5 h.inj (fun e=>absurd e z),h.linj,?_,?_,by simp only;rw[aS_,<-h.whole];rfl,fun v o=>by
  rcases q_.1 o with o|o
  ·exact h.tb v o
  ·rw[c_.1 o];exact C⟩
 ·simp only;rw[E];exact h.nodup
 ·simp only;rw[E];exact h.fresh
theorem In.remove (h:c.In) (s:List UInt8):(c.remove s).In:=h.turn (u:=⟨3,0,s,[]⟩) s_ z_
theorem In.rename (h:c.In) (a b:List UInt8) (o:b.length<=16):(c.rename a b).In:=h.turn (u:=⟨2,0,a,b⟩) s_ o
theorem nx3 (c:Co) (s:List UInt8):(c.remove s).most=c.most:=by unfold most Co.remove;rw[zk];simp[made]
theorem py3 (c:Co) (a b:List UInt8):(c.rename a b).most=c.most:=by unfold most Co.rename;rw[zk];simp[made]
theorem Now.remove {u:List UInt8} (h:c.In) (k:c.Now s t l) (o:s≠u):(c.remove u).Now s t l:=by
 obtain⟨i,a,b⟩:=k;exact⟨i,(go_get (u:=⟨3,0,u,[]⟩) h.apart ⟨o.symm,fun e=>by cases e⟩).trans a,b⟩
theorem Held.remove {u:List UInt8} (h:c.In) (k:c.Held s t l) (o:s≠u):(c.remove u).Held s t l:=by
 obtain⟨i,a,b,d,e⟩:=k;refine⟨i,(go_get (u:=⟨3,0,u,[]⟩) h.apart ⟨o.symm,fun e=>by cases e⟩).trans a,b,d,fun v z=>?_⟩
 rcases q_.1 z with z|z
 ·exact e v z
 ·rw[c_.1 z]
  exact⟨o.symm,fun h=>by cases h⟩
theorem ix4 {u:List UInt8} (h:c.In) (o:s≠u):(c.remove u).names.get s=c.names.get s:=go_get (u:=⟨3,0,u,[]⟩) h.apart ⟨o.symm,fun e=>by cases e⟩
theorem mj3 (h:c.In) (s:List UInt8):(c.remove s).names.get s=none:=by
 unfold Co.remove Tn.go;simp only[show ¬(3=1) by decide,show ¬(3=2) by decide,if_false,if_true];exact Nm.pq1 _ _
theorem kk4 {u:List UInt8} {p:List UInt8×Nat} (o:p∈(c.remove u).names):p∈c.names/\p.1≠u:=by
 unfold Co.remove Tn.go at o;simp only[show ¬(3=1) by decide,show ¬(3=2) by decide,if_false,if_true]at o;exact Nm.zq.1 o
theorem ax2 {a b:List UInt8} {i:Nat} (o:c.names.get a=some i):(c.rename a b).names=(c.names.put b i).del a:=by
 unfold Co.rename Tn.go;simp[o]
theorem Now.moved {a b:List UInt8} (h:c.In) (k:c.Now a t l) (o:a≠b):(c.rename a b).Now b t l:=by
 obtain⟨i,g,d⟩:=k;refine⟨i,?_,d⟩;rw[ax2 g,Nm.dq1 (Nm.cy1 h.apart _ _) o.symm,Nm.cj1 h.apart]
theorem Now.rename {a b:List UInt8} (h:c.In) (k:c.Now s t l) (o:s≠a) (z:s≠b):(c.rename a b).Now s t l:=by
 obtain⟨i,g,d⟩:=k;exact⟨i,(go_get (u:=⟨2,0,a,b⟩) h.apart ⟨o.symm,fun _=>z.symm⟩).trans g,d⟩
theorem Held.rename {a b:List UInt8} (h:c.In) (k:c.Held s t l) (z:s≠a) (C:s≠b):(c.rename a b).Held s t l:=by
 obtain⟨i,g,g2,d,e⟩:=k;refine⟨i,(go_get (u:=⟨2,0,a,b⟩) h.apart ⟨z.symm,fun _=>C.symm⟩).trans g,g2,d,fun v o=>?_⟩
 rcases q_.1 o with o|o
 ·exact e v o
 ·rw[c_.1 o]
  exact⟨z.symm,fun _=>C.symm⟩
theorem In.ak (h:c.In):c.ak.In:=⟨h.apart,h.apart,h.lead,h.lead,h.inj,h.inj,by simp[Co.ak,made],by simp[Co.ak,made],rfl,by simp[Co.ak]⟩
theorem Now.ak (k:c.Now s t l):c.ak.Held s t l:=by
 obtain⟨i,g,d⟩:=k;exact⟨i,g,g,d,fun v o=>by simp[Co.ak]at o⟩
theorem ay2 (c:Co):c.ak.most=c.names.length:=by simp[most,Co.ak,made]
structure Cr (c c':Co):Prop where
 quota:c'.quota=c.quota
 turns:c'.turns=[]
 same:c'.lasted=c'.names
 names:∃us:List Tn,us.Sublist c.turns/\c'.names=us.foldl (fun m u=>u.go m) c.lasted
 len:c'.files.length=c.files.length
 file:∀(i:Nat) (f:List UInt8×Nat),c.files[i]?=some f->∃f':List UInt8×Nat,c'.files[i]?=some f'/\f'.1.length<=f.1.length/\((∃p∈c'.names,p.2=i)->f.2<=f.1.length->∃m,f.2<=m/\m<=f.1.length/\f'=(f.1.take m,m))
theorem dj4 {us:List Tn}:∀{m:Nm},Nm.Apart m->Nm.Apart (us.foldl (fun m u=>u.go m) m):=by
 induction us with
 |nil=>intro m h;exact h
 |cons u r o=>intro m h;exact o (Sd.cv2 h u)
theorem wy3 {us:List Tn}:∀{m:Nm} {p:List UInt8×Nat},p∈us.foldl (fun m u=>u.go m) m->p.2∈made us\/∃q∈m,q.2=p.2:=by
 induction us with
 |nil=>intro m p h;exact .inr ⟨p,h,rfl⟩
 |cons u r o=>
  intro m p h
  rcases o h with h1|⟨q,z,e⟩
  ·exact .inl (by rw[show u::r=[u] ++r from rfl,zk];exact k_ _ h1)
  ·rcases go_mem z with ⟨h1,h2⟩|⟨C,h1,h2⟩
   ·refine .inl ?_
    rw[show u::r=[u] ++r from rfl,zk];refine x_ _ ?_;rw[<-e,h2];simp[made,h1]
   ·exact .inr ⟨C,h1,h2.trans e⟩
theorem cy5 {us:List Tn}:∀{m:Nm},(∀p∈m,∀q∈m,p.2=q.2->p.1=q.1)->(made us).Nodup->(∀i∈made us,∀p∈m,p.2≠i)->∀p∈us.foldl (fun m u=>u.go m) m,∀q∈us.foldl (fun m u=>u.go m) m,p.2=q.2->p.1=q.1:=by
 induction us with
 |nil=>intro m h _ _;exact h
 |cons u r E=>
  intro m h C o;rw[show u::r=[u] ++r from rfl,zk]at C o;obtain⟨_,H,I⟩:=aE_.1 C;refine E (pk5 h (fun J p z=>o u.file (x_ _ (by simp[made,J])) p z)) H (fun i hi p z e=>?_)
  rcases go_mem z with ⟨h1,h2⟩|⟨q,h1,h2⟩
  ·exact I u.file (by simp[made,h1]) i hi (by rw[<-e,h2])
  ·exact o i (k_ _ hi) q h1 (h2.trans e)
theorem iz2 {us:List Tn}:∀{m:Nm},Nm.Apart m->(us.foldl (fun m u=>u.go m) m).length<=m.length+(made us).length:=by
 induction us with
 |nil=>intro m _;simp[made]
 |cons u r o=>
  intro m h;have h1:=o (Sd.cv2 h u);have h2:=ck3 h u;have h3:(made (u::r)).length=(if u.kind=1 then 1 else 0)+(made r).length:=by
   rw[show u::r=[u] ++r from rfl,zk,e_]
   congr 1
   unfold made;split<;>simp[*]
  rw[aX_,h3];omega
theorem xq2 {a b:List Tn} (h:a.Sublist b):(made a).Sublist (made b):=(h.filter _).map _
variable {c':Co}
theorem Cr.in_ (h:Cr c c') (hi:c.In):c'.In:=by
 obtain⟨us,J,E⟩:=h.names;have H:=xq2 J;have z:Nm.Apart c'.names:=by rw[E];exact dj4 hi.lapart
 have o:∀p∈c'.names,∀q∈c'.names,p.2=q.2->p.1=q.1:=by
  rw[E];exact cy5 hi.linj (hi.nodup.sublist H) (fun i O p C=>(hi.fresh i (H.subset O)).2 p C)
 have I:Sd.jx1 c'.names c'.files.length:=fun p C=>by
  rw[h.len];rw[E]at C
  rcases wy3 C with h1|⟨q,h1,h2⟩
  ·exact(hi.fresh _ (H.subset h1)).1
  ·rw[<-h2];exact hi.llead q h1
 exact⟨z,by rw[h.same];exact z,I,by rw[h.same];exact I,o,by rw[h.same];exact o,by rw[h.turns];simp[made],by rw[h.turns];simp[made],by rw[h.turns,h.same];rfl,by rw[h.turns];simp⟩
theorem Cr.zw4 (h:Cr c c') (hi:c.In):c'.most<=c.most/\c'.names.length<=c.most:=by
 obtain⟨us,o,z⟩:=h.names;have h1:=iz2 (us:=us) hi.lapart;rw[<-z]at h1;have h2:=(xq2 o).length_le;unfold most;rw[h.same,h.turns];simp[made]at *;omega
end Co
end
end Go.Proofs.YtfbkjjdfboagfaaGreatDoor
