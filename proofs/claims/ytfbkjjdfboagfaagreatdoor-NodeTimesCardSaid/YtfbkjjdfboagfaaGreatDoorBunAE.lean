/- Some of the texts. No conditions. -/
import Derived.Test.YtfbkjjdfboagfaaGreatDoorBunAA
import Derived.Maps.RangeWalk

set_option linter.unusedSimpArgs false
set_option linter.unusedVariables false
set_option maxRecDepth 100000
set_option maxHeartbeats 16000000
namespace Go.Proofs.YtfbkjjdfboagfaaGreatDoor
open Go.Proofs.Tryz Go Go.RowKit Go.Lib Go.Shelf
def str (l:List UInt8):ByteArray:=⟨l.toArray⟩
theorem ek1 (s:ByteArray):str s.data.toList=s:=by simp[str]
theorem kz (l:List UInt8):(str l).data.toList=l:=by simp[str]
theorem jy (l:List UInt8):(str l).size=l.length:=by simp[str,ByteArray.size]
structure Dw where
 d:Nat
 nb:Nat
 lb:Nat
 fv:Value
 tv:Value
 ps:List (Nat×Value)
def gq (p:Nat×Value):List Nat:=p.1::p.2.ownBlock.toList
def Dw.foot (X:Dw):List Nat:=[X.d] ++([X.nb] ++([X.lb] ++(X.fv.ownBlock.toList++(X.tv.ownBlock.toList++X.ps.flatMap gq))))
def ptrV (p:Nat×Value):Value:=.pointer (some p.1)
def lq (t:Tn):List Value:=[(t.kind:Int),(t.file:Int),.string (str t.a),.string (str t.b)]
structure rw1 (w:World) (p:Nat×Value) (f:List UInt8×Nat):Prop where
 box:BoxO w 79 p.1 [p.2,(f.2:Int)]
 row:w.ownsRow 0 5 1 p.2 f.1.length (bts f.1)
abbrev uy (w:World) (nb n:Nat) (M:Nm):Prop:=w.ownsMap prog 9 (plainElem (H:=Unit) prog 3) nb n (Nm.enc M)
def Dw.cells (X:Dw) (S:Sd):List Value:=[(S.quota:Int),X.fv,.map (some X.nb),.map (some X.lb),X.tv,S.calls,.bool S.dead,(S.stop:Int),(S.fail:Int)]
structure DK (w:World) (X:Dw) (S:Sd):Prop where
 box:BoxO w 54 X.d (X.cells S)
 names:uy w X.nb S.names.length S.names
 lasted:uy w X.lb S.lasted.length S.lasted
 files:w.ownsRow 0 76 1 X.fv S.files.length (X.ps.map ptrV)
 file:∀i (h:i < S.files.length) (h2:i < X.ps.length),rw1 w X.ps[i] S.files[i]
 turns:w.ownsRow 0 81 4 X.tv S.turns.length (S.turns.flatMap lq)
 nodup:X.foot.Nodup
variable {w w':World} {X:Dw} {S:Sd} {G:List Nat}
theorem DK.flen (h:DK w X S):X.ps.length=S.files.length:=by
 have:=h.files.1;simpa using this
theorem jv {base n size:Nat} {e:TypeId} {v:Value} {xs:List Value} (h:w.ownsRow base e size v n xs) (c:Chg G w w') (o:∀g,v.ownBlock=some g->g∉G):w'.ownsRow base e size v n xs:=by
 refine⟨h.1,?_⟩
 rcases h.2 with z|⟨g,cap,cur,rfl,h1,h2,r⟩
 ·exact .inl z
 ·exact .inr ⟨g,cap,cur,rfl,h1,(c.block g (E_.1 h2).1 (o g rfl)).trans h2,r⟩
theorem xy {b n:Nat} {D:DataW Unit} {k e:TypeId} (h:w.ownsMap prog k (plainElem (H:=Unit) prog e) b n D) (c:Chg G w w') (z:b∉G):w'.ownsMap prog k (plainElem (H:=Unit) prog e) b n D:=by
 have o:=h.lt;obtain⟨es,clock,C,r⟩:=h;exact⟨es,clock,(c.block b o z).trans C,r⟩
theorem rj4 {b n:Nat} {D:DataW Unit} {k e:TypeId} (h:w.ownsMap prog k (plainElem (H:=Unit) prog e) b n D):w.ownsMap prog k (plainElem (H:=Unit) prog e) b (Maps.size D) D:=by
 obtain⟨es,clock,o,F,z,rfl⟩:=h;exact⟨es,clock,o,F,by rw[Maps.size_eq,length_sorted];simp,rfl⟩
theorem kq2 {b n:Nat} {M:Nm} (h:uy w b n M):uy w b M.length M:=by
 have h1:=rj4 h
 rwa [Nm.dq2]at h1
theorem rw1.chg {p:Nat×Value} {f:List UInt8×Nat} (h:rw1 w p f) (c:Chg G w w') (o:∀g∈gq p,g∉G):rw1 w' p f:=
 ⟨h.box.chg c (o _ (by simp[gq])),jv h.row c (fun g e=>o g (by simp[gq,e]))⟩
theorem aj {g:Nat}:g∈X.foot↔g=X.d\/g=X.nb\/g=X.lb\/X.fv.ownBlock=some g\/X.tv.ownBlock=some g\/∃p∈X.ps,g∈gq p:=by
 simp[Dw.foot,W_]
theorem DK.lt (h:DK w X S):∀g∈X.foot,g < (w:Nat):=by
 intro g C
 rcases aj.1 C with rfl|rfl|rfl|h1|h1|⟨p,E,o⟩
 ·exact h.box.lt
 ·exact h.names.lt
 ·exact h.lasted.lt
 ·exact(h.files.lt g h1).2
 ·exact(h.turns.lt g h1).2
 ·obtain⟨i,hi,rfl⟩:=aI_ E
  have z:=h.file i (by have:=h.flen;omega) hi;simp only[gq,h_,bg_]at o
  rcases o with rfl|o
  ·exact z.box.lt
  ·exact(z.row.lt g o).2
structure Apart (X:Dw):Prop where
 d_nb:X.d≠X.nb
 d_lb:X.d≠X.lb
 nb_lb:X.nb≠X.lb
 fv:∀g,X.fv.ownBlock=some g->g≠X.d/\g≠X.nb/\g≠X.lb/\X.tv.ownBlock≠some g
 tv:∀g,X.tv.ownBlock=some g->g≠X.d/\g≠X.nb/\g≠X.lb/\X.fv.ownBlock≠some g
 ps:∀p∈X.ps,∀g∈gq p,g≠X.d/\g≠X.nb/\g≠X.lb/\X.fv.ownBlock≠some g/\X.tv.ownBlock≠some g
 each:∀i j (hi:i < X.ps.length) (hj:j < X.ps.length),i≠j->∀g∈gq X.ps[i],g∉gq X.ps[j]
 self:∀p∈X.ps,p.2.ownBlock≠some p.1
theorem nx2 {α:Type} (f:α->List Nat):∀(l:List α),(l.flatMap f).Nodup->(∀i j (hi:i < l.length) (hj:j < l.length),i≠j->∀g∈f l[i],g∉f l[j])/\∀p∈l,(f p).Nodup
 |[],_=>⟨fun i j hi=>by simp at hi,fun p z=>by cases z⟩
 |a::r,h=>by
  rw[P_]at h;obtain⟨h1,h2,h3⟩:=aE_.1 h;obtain⟨H,I⟩:=nx2 f r h2;refine⟨fun i j hi hj C g E o=>?_,fun p z=>?_⟩
  ·rcases i with _|i<;>rcases j with _|j
   ·exact C rfl
   ·exact h3 g (by simpa using E) g (W_.2 ⟨r[j]'(by simpa using hj),w_ _,by simpa using o⟩) rfl
   ·exact h3 g (by simpa using o) g (W_.2 ⟨r[i]'(by simpa using hi),w_ _,by simpa using E⟩) rfl
   ·exact H i j (by simpa using hi) (by simpa using hj) o_ g (by simpa using E) (by simpa using o)
  ·rcases h_.1 z with rfl|z
   ·exact h1
   ·exact I p z
theorem lx5 (h:X.foot.Nodup):Apart X:=by
 unfold Dw.foot at h;obtain⟨_,h,C⟩:=aE_.1 h;obtain⟨_,h,E⟩:=aE_.1 h;obtain⟨_,h,a3⟩:=aE_.1 h;obtain⟨_,h,I⟩:=aE_.1 h;obtain⟨_,h,J⟩:=aE_.1 h;obtain⟨Q,o⟩:=nx2 gq X.ps h;simp only[q_,c_,bg_,W_]at C E a3 I J;refine⟨C _ rfl _ (.inl rfl),C _ rfl _ (.inr (.inl rfl)),E _ rfl _ (.inl rfl),fun g e=>⟨(C _ rfl g (.inr (.inr (.inl e)))).symm,(E _ rfl g (.inr (.inl e))).symm,(a3 _ rfl g (.inl e)).symm,fun o=>I g e g (.inl o) rfl⟩,
  fun g e=>⟨(C _ rfl g (.inr (.inr (.inr (.inl e))))).symm,(E _ rfl g (.inr (.inr (.inl e)))).symm,(a3 _ rfl g (.inr (.inl e))).symm,fun o=>I g o g (.inl e) rfl⟩,
  fun p z g H=>⟨(C _ rfl g (.inr (.inr (.inr (.inr ⟨p,z,H⟩))))).symm,(E _ rfl g (.inr (.inr (.inr ⟨p,z,H⟩)))).symm,(a3 _ rfl g (.inr (.inr ⟨p,z,H⟩))).symm,fun o=>I g o g (.inr ⟨p,z,H⟩) rfl,fun o=>J g o g ⟨p,z,H⟩ rfl⟩,Q,fun p z e=>?_⟩
 have O:=o p z;unfold gq at O;exact(bk_.1 O).1 (by simp[e])
theorem DK.apart (h:DK w X S):Apart X:=lx5 h.nodup
theorem DK.chg (h:DK w X S) (c:Chg G w w') (z:∀g∈G,g∉X.foot):DK w' X S:=by
 have o:∀g∈X.foot,g∉G:=fun g h1 h2=>z g h2 h1;exact⟨h.box.chg c (o _ (aj.2 (.inl rfl))),xy h.names c (o _ (aj.2 (.inr (.inl rfl)))),xy h.lasted c (o _ (aj.2 (.inr (.inr (.inl rfl))))),jv h.files c (fun g e=>o g (aj.2 (.inr (.inr (.inr (.inl e)))))),
  fun i hi h2=>(h.file i hi h2).chg c (fun g e=>o g (aj.2 (.inr (.inr (.inr (.inr (.inr ⟨_,w_ h2,e⟩))))))),jv h.turns c (fun g e=>o g (aj.2 (.inr (.inr (.inr (.inr (.inl e))))))),h.nodup⟩
theorem DK.below (h:DK w X S) (o:Below w w w'):DK w' X S:=h.chg (Chg.of_below o []) (fun g z=>by cases z)
theorem DK.fv6 {S':Sd} (h:DK w X S) (c:Chg [X.d] w w') (H:BoxO w' 54 X.d (X.cells S')) (o:S'.names=S.names) (z:S'.lasted=S.lasted) (C:S'.files=S.files) (E:S'.turns=S.turns):DK w' X S':=by
 have a:=h.apart;obtain⟨q,fs,nm,la,I,J,O,st,Q⟩:=S';simp only at o z C E;subst o z C E;exact⟨H,xy h.names c (by simpa using a.d_nb.symm),xy h.lasted c (by simpa using a.d_lb.symm),jv h.files c (fun g e=>by simpa using (a.fv g e).1),fun i hi h2=>(h.file i hi h2).chg c (fun g e=>by simpa using (a.ps _ (w_ h2) g e).1),
  jv h.turns c (fun g e=>by simpa using (a.tv g e).1),h.nodup⟩
def Upd (X:Dw) (w w':World) (S':Sd):Prop:=∃X',X'.d=X.d/\DK w' X' S'/\Chg X.foot w w'/\∀g∈X'.foot,g∈X.foot\/(w:Nat)<=g
theorem Upd.same (h:DK w' X S) (c:Chg X.foot w w'):Upd X w w' S:=⟨X,rfl,h,c,fun _ o=>.inl o⟩
theorem yv1 {E a H I:List Nat} {n:Nat} (h:(E++(a++I)).Nodup) (lt:∀x∈E++(a++I),x < n) (O:H.Nodup) (J:∀x∈H,x∈a\/n<=x):(E++(H++I)).Nodup:=by
 obtain⟨h1,h2,h3⟩:=aE_.1 h;obtain⟨h4,h5,Q⟩:=aE_.1 h2;refine aE_.2 ⟨h1,aE_.2 ⟨O,h5,fun x o y z e=>?_⟩,fun x o y z e=>?_⟩
 ·subst e
  rcases J x o with C|C
  ·exact Q x C x z rfl
  ·have:=lt x (by simp[z]);omega
 ·subst e
  rcases q_.1 z with z|z
  ·rcases J x z with C|C
   ·exact h3 x o x (by simp[C]) rfl
   ·have:=lt x (by simp[o]);omega
  ·exact h3 x o x (by simp[z]) rfl
theorem DK.qj1 {n:Nat} {M:Nm} (h:DK w X S) (o:uy w' X.nb n M) (c:Chg [X.nb] w w'):DK w' X { S with names:=M }:=by
 have a:=h.apart;exact⟨h.box.chg c (by simpa using a.d_nb),kq2 o,xy h.lasted c (by simpa using a.nb_lb.symm),jv h.files c (fun g e=>by simpa using (a.fv g e).2.1),fun i hi h2=>(h.file i hi h2).chg c (fun g e=>by simpa using (a.ps _ (w_ h2) g e).2.1),
  jv h.turns c (fun g e=>by simpa using (a.tv g e).2.1),h.nodup⟩
theorem DK.mj5 {tv:Value} {ts:List Tn} (h:DK w X S) (E:w'.ownsRow 0 81 4 tv ts.length (ts.flatMap lq)) (c:Chg ([X.d] ++X.tv.ownBlock.toList) w w') (H:∀g,tv.ownBlock=some g->X.tv.ownBlock=some g\/(w:Nat)<=g)
  (I:BoxO w' 54 X.d (({ X with tv:=tv }:Dw).cells { S with turns:=ts })):DK w' { X with tv:=tv } { S with turns:=ts }:=by
 have a:=h.apart;have z:∀g,g≠X.d->X.tv.ownBlock≠some g->g∉[X.d] ++X.tv.ownBlock.toList:=fun g h1 h2 h3=>by
  rcases q_.1 h3 with h3|h3
  ·exact h1 (by simpa using h3)
  ·exact h2 (by simpa using h3)
 refine⟨I,xy h.names c (z _ a.d_nb.symm (fun e=>(a.tv _ e).2.1 rfl)),xy h.lasted c (z _ a.d_lb.symm (fun e=>(a.tv _ e).2.2.1 rfl)),jv h.files c (fun g e=>z g (a.fv g e).1 (a.fv g e).2.2.2),
  fun i hi h2=>(h.file i hi h2).chg c (fun g e=>z g (a.ps _ (w_ h2) g e).1 (a.ps _ (w_ h2) g e).2.2.2.2),E,?_⟩
 have C:=h.lt;have o:=h.nodup;unfold Dw.foot at C o ⊢;simp only[<-J_]at C o ⊢;simp only[J_ ([X.d] ++[X.nb] ++[X.lb] ++X.fv.ownBlock.toList)]at C o ⊢;exact yv1 o C (by cases tv.ownBlock<;>simp) (fun x J=>by simpa using H x (by simpa using J))
theorem DK.qw {i:Nat} {v:Value} {f:List UInt8×Nat} (h:DK w X S) (hi:i < X.ps.length) (Q:rw1 w' ((X.ps[i]).1,v) f) (c:Chg (gq X.ps[i]) w w') (O:∀g,v.ownBlock=some g->(X.ps[i]).2.ownBlock=some g\/(w:Nat)<=g):
  DK w' { X with ps:=X.ps.set i ((X.ps[i]).1,v) } { S with files:=S.files.set i f }:=by
 have a:=h.apart;have U:=a.ps _ (w_ hi);have z:∀g,(g=X.d\/g=X.nb\/g=X.lb\/X.fv.ownBlock=some g\/X.tv.ownBlock=some g)->g∉gq X.ps[i]:=fun g h1 h2=>by
  obtain⟨b1,b2,b3,b4,b5⟩:=U g h2
  rcases h1 with h1|h1|h1|h1|h1
  ·exact b1 h1
  ·exact b2 h1
  ·exact b3 h1
  ·exact b4 h1
  ·exact b5 h1
 refine⟨h.box.chg c (z _ (.inl rfl)),xy h.names c (z _ (.inr (.inl rfl))),xy h.lasted c (z _ (.inr (.inr (.inl rfl)))),?_,fun j hj h2=>?_,jv h.turns c (fun g e=>z g (.inr (.inr (.inr (.inr e))))),?_⟩
 ·have h1:=jv h.files c (fun g e=>z g (.inr (.inr (.inr (.inl e)))))
  have e:(X.ps.set i ((X.ps[i]).1,v)).map ptrV=X.ps.map ptrV:=by
   rw[ck_];refine cz_ s_ fun k h3 h4=>?_;rw[bO_];split
   ·subst_vars;simp[ptrV]
   ·rfl
  simpa [e] using h1
 ·simp only[av_]at hj h2
  simp only[bO_];split
  ·subst_vars;exact Q
  ·rename_i H
   exact(h.file j hj h2).chg c (fun g hg I=>a.each i j hi h2 H g I hg)
 ·have C:=h.lt
  have o:=h.nodup;have e1:X.ps.flatMap gq=(X.ps.take i).flatMap gq++(gq X.ps[i] ++(X.ps.drop (i+1)).flatMap gq):=by
   conv=>lhs;rw[<-ag_ i X.ps,bl_,aO_ hi,P_]
  have e2:(X.ps.set i ((X.ps[i]).1,v)).flatMap gq=(X.ps.take i).flatMap gq++(gq ((X.ps[i]).1,v)++(X.ps.drop (i+1)).flatMap gq):=by
   rw[aZ_,if_pos hi,bl_,P_]
  unfold Dw.foot at C o ⊢;simp only[e2];rw[e1]at C o;simp only[<-J_]at C o ⊢;simp only[J_ ([X.d] ++[X.nb] ++[X.lb] ++X.fv.ownBlock.toList++X.tv.ownBlock.toList++(X.ps.take i).flatMap gq)]at C o ⊢;refine yv1 o C ?_ (fun x E=>?_)
  ·unfold gq
   simp only
   cases J:v.ownBlock with
   |none=>simp
   |some g=>
    simp only[Option.toList_some,bk_,c_,ar_,not_false_eq_true,List.nodup_nil,and_true];intro e
    rcases O g J with h1|h1
    ·exact a.self _ (w_ hi) (by rw[h1,e])
    ·have:=(h.file i (by have:=h.flen;omega) hi).box.lt
     omega
  ·simp only[gq,h_,bg_]at E ⊢
   rcases E with rfl|E
   ·exact .inl (.inl rfl)
   ·rcases O x E with h1|h1
    ·exact .inl (.inr h1)
    ·exact .inr h1
theorem DK.ww5 {fv:Value} {b:Nat} (h:DK w X S) (hr:w'.ownsRow 0 76 1 fv (S.files.length+1) ((X.ps++[(b,Value.slice none 0 0)]).map ptrV)) (a1:(w:Nat)<=b) (O:fv.ownBlock≠some b)
  (hf:BoxO w' 79 b [.slice none 0 0,.int .i64 0]) (c:Chg ([X.d] ++X.fv.ownBlock.toList) w w') (hv:∀g,fv.ownBlock=some g->X.fv.ownBlock=some g\/(w:Nat)<=g)
  (hb:BoxO w' 54 X.d (({ X with fv:=fv,ps:=X.ps++[(b,Value.slice none 0 0)] }:Dw).cells { S with files:=S.files++[([],0)] })):DK w' { X with fv:=fv,ps:=X.ps++[(b,Value.slice none 0 0)] } { S with files:=S.files++[([],0)] }:=by
 have a:=h.apart;have J:∀g,g≠X.d->X.fv.ownBlock≠some g->g∉[X.d] ++X.fv.ownBlock.toList:=fun g h1 h2 h3=>by
  rcases q_.1 h3 with h3|h3
  ·exact h1 (by simpa using h3)
  ·exact h2 (by simpa using h3)
 have I:=h.flen;refine⟨hb,xy h.names c (J _ a.d_nb.symm (fun e=>(a.fv _ e).2.1 rfl)),xy h.lasted c (J _ a.d_lb.symm (fun e=>(a.fv _ e).2.2.1 rfl)),by simpa using hr,fun j hj h2=>?_,
  jv h.turns c (fun g e=>J g (a.tv g e).1 (a.tv g e).2.2.2),?_⟩
 ·simp only[e_,ax_]at hj h2
  rcases ad_ j X.ps.length with h3|h3
  ·simp only[aL_ h3,aL_ (show j < S.files.length by omega)]
   exact(h.file j o_ h3).chg c (fun g e=>J g (a.ps _ (w_ h3) g e).1 (a.ps _ (w_ h3) g e).2.2.2.1)
  ·have e1:j=X.ps.length:=o_
   subst e1;have e2:(X.ps++[(b,Value.slice none 0 0)])[X.ps.length]'s_=(b,Value.slice none 0 0):=by simp
   have e3:(S.files++[(([]:List UInt8),0)])[X.ps.length]'(by simp[I])=([],0):=by simp[I]
   rw[e2,e3];exact⟨hf,G_ _ _ _ _⟩
 ·have H:=h.lt
  have z:=h.nodup;have E:(([X.d] ++([X.nb] ++([X.lb] ++(fv.ownBlock.toList++(X.tv.ownBlock.toList++X.ps.flatMap gq)))))).Nodup:=by
   unfold Dw.foot at H z;simp only[<-J_]at H z ⊢;simp only[J_ ([X.d] ++[X.nb] ++[X.lb])]at H z ⊢;simp only[J_ X.fv.ownBlock.toList,J_ fv.ownBlock.toList]at H z ⊢;exact yv1 z H (by cases fv.ownBlock<;>simp) (fun x o=>by simpa using hv x (by simpa using o))
  unfold Dw.foot;simp only[bl_,P_,cA_,aM_];have e:gq (b,Value.slice none 0 0)=[b]:=by simp[gq,Value.ownBlock]
  rw[e];simp only[<-J_]at E ⊢;refine aE_.2 ⟨E,by simp,fun x o y U e0=>?_⟩;simp only[c_]at U;subst U;subst e0;have C:∀g∈X.foot,g≠x:=fun g Q=>by have:=H g Q;omega
  simp only[q_,c_,bg_]at o
  rcases o with ((((o|o)|o)|o)|o)|o
  ·exact C _ (aj.2 (.inl rfl)) o.symm
  ·exact C _ (aj.2 (.inr (.inl rfl))) o.symm
  ·exact C _ (aj.2 (.inr (.inr (.inl rfl)))) o.symm
  ·exact O o
  ·exact C _ (aj.2 (.inr (.inr (.inr (.inr (.inl o)))))) rfl
  ·obtain⟨p,hp,Q⟩:=W_.1 o
   exact C _ (aj.2 (.inr (.inr (.inr (.inr (.inr ⟨p,hp,Q⟩)))))) rfl
section
open Go.Maps
theorem oj4 (g t:Nat):(⟨g,0,none⟩:Addr).add t=⟨g,t,none⟩:=by
 unfold Addr.add;split
 ·subst_vars;rfl
 ·simp
theorem cy2 {a b:Bool} (h:a=b):Ending.returned (.bool a)=.returned (.bool b):=by rw[h]
theorem yy2 {s:ByteArray} {k:Nat} (h:k < s.size):(s.data.toList.take (k+1)).all Sd.okCh=((s.data.toList.take k).all Sd.okCh&&Sd.okCh s[k]):=by
 rw[v_ (by simpa using h),bT_];simp;rfl
theorem bz6 {s:ByteArray} {k:Nat} (h:k < s.size) (o:Sd.okCh s[k]=false):s.data.toList.all Sd.okCh=false:=by
 rw[List.all_eq_false];exact⟨s[k],by
  have:s[k]=s.data.toList[k]'(by simpa using h):=rfl;rw[this];exact w_ _,by simp[o]⟩
theorem fq2 (s:ByteArray) (hs:s.size<=maxLen) (w:World):Calls prog 142 #[.string s] w fun e w'=>e=.returned (.bool (Sd.named s.data.toList))/\w=w':=by
 unfold maxLen at hs
 by_cases h1:s.size < 1
 ·have z:Sd.named s.data.toList=false:=by
   have:s.data.toList.length < 1:=by simpa using h1
   simp[Sd.named];omega
  rw[z];clear z;go_enter func142,ntmps142;go_wp2;go_ret;exact⟨rfl,rfl⟩
 by_cases h2:16 < s.size
 ·have z:Sd.named s.data.toList=false:=by
   have:16 < s.data.toList.length:=by simpa using h2
   simp[Sd.named];omega
  rw[z];clear z;go_enter func142,ntmps142;go_wp2;go_ret;exact⟨rfl,rfl⟩
 have z:Sd.named s.data.toList=s.data.toList.all Sd.okCh:=by
  have:s.data.toList.length=s.size:=by simp
  simp only[Sd.named,this];rw[decide_eq_true o_,decide_eq_true o_];rfl
 rw[z];clear z;obtain⟨R,U⟩:=n_ (s.data.toList.all Sd.okCh);rw[<-U];have O:=H_ U;clear U;go_enter func142,ntmps142;go_wp2
 go_loop [15] (fun i=>∃k:Nat,k<=s.size/\i=.int .i64 k/\(s.data.toList.take k).all Sd.okCh=true) (fun i=>s.size - (intOf i).toNat)
 case atStart=>exact⟨0,A_ _,rfl,rfl⟩
 case round=>
  obtain⟨k,hk,rfl,C⟩:=hrel;have HA:=H_ C;clear C
  by_cases E:k < s.size
  ·cases o:Sd.okCh s[k] with
   |true=>
    have HT:Hid ((s.data.toList.take (k+1)).all Sd.okCh=true):=H_ (by rw[yy2 E,HA.out,o];rfl);simp only[Sd.okCh,bU_,N_,decide_eq_true_eq]at o
    rcases o with (⟨c1,c2⟩|⟨c1,c2⟩)|c1
    ·have H:((s[k].toNat:Int) < 97)=False:=by simp;omega
     have I:((122:Int) < (s[k].toNat:Int))=False:=by simp;omega
     clear c1 c2;go_wp2
     go_round
     case rel=>exact⟨k+1,o_,by go_num,HT⟩
     case measure=>simp[intOf];omega
    ·have H:((s[k].toNat:Int) < 97):=o_
     have I:((s[k].toNat:Int) < 48)=False:=by simp;omega
     have Q:((57:Int) < (s[k].toNat:Int))=False:=by simp;omega
     clear c1 c2;go_wp2
     go_round
     case rel=>exact⟨k+1,o_,by go_num,HT⟩
     case measure=>simp[intOf];omega
    ·have H:((s[k].toNat:Int) < 97):=o_
     have I:((s[k].toNat:Int) < 48):=o_
     have Q:((s[k].toNat:Int)==46)=true:=by simp[c1]
     have e4:((s[k].toNat:Int) !=46)=false:=by simp[bne,Q]
     clear c1;go_wp2
     go_round
     case rel=>exact⟨k+1,o_,by go_num,HT⟩
     case measure=>simp[intOf];omega
   |false=>
    have J:=H_ (bz6 E o);simp only[Sd.okCh,cc_,Bool.and_eq_false_iff,decide_eq_false_iff_not]at o;obtain⟨⟨c1,c2⟩,c3⟩:=o;have Q:((s[k].toNat:Int)==46)=false:=by simp;omega
    have e4:((s[k].toNat:Int) !=46)=true:=by simp[bne,Q]
    by_cases d1:s[k].toNat < 48
    ·have H:((s[k].toNat:Int) < 97):=o_
     have I:((s[k].toNat:Int) < 48):=o_
     clear c1 c2 c3 d1;go_wp2;go_ret;exact⟨cy2 (O.trans J).symm,rfl⟩
    by_cases d2:s[k].toNat < 97
    ·have H:((s[k].toNat:Int) < 97):=o_
     have I:((s[k].toNat:Int) < 48)=False:=by simp;omega
     have e5:((57:Int) < (s[k].toNat:Int)):=o_
     clear c1 c2 c3 d1 d2;go_wp2;go_ret;exact⟨cy2 (O.trans J).symm,rfl⟩
    have H:((s[k].toNat:Int) < 97)=False:=by simp;omega
    have I:((122:Int) < (s[k].toNat:Int)):=o_
    have e6:((s[k].toNat:Int) < 48)=False:=by simp;omega
    have e5:((57:Int) < (s[k].toNat:Int)):=o_
    clear c1 c2 c3 d1 d2;go_wp2;go_ret;exact⟨cy2 (O.trans J).symm,rfl⟩
  ·have ha:s.data.toList.all Sd.okCh=true:=by
    have:=HA.out
    rwa [i_ (by simp;omega)]at this
   have J:=H_ ha;clear ha;go_wp2;go_ret;exact⟨cy2 (O.trans J).symm,rfl⟩
theorem uw2 (X:Nat) (b:Bool) (w:World) (h:w.cell? (X,6)=some (.bool b)):Calls prog 33 #[X] w fun e w'=>e=.returned (.bool b)/\w=w':=by
 go_enter func33,ntmps33;go_wp2;go_ret;exact⟨rfl,rfl⟩
theorem ej2 (w:World):(zeroValue 3).run prog w=.ok (.int .i64 0) w:=by kernel_rfl
theorem nz1:Keyed prog 9:=Maps.string_keyed underlying9
theorem cz4 {s:ByteArray} (o:s.size<=maxLen):keyOf prog 9 (.string s)=some (.string s.data.toList):=Go.WideMaps.keyOf_string_mk underlying9 o
theorem DK.fileAt {w:World} {X:Dw} {S:Sd} (h:DK w X S) {i:Nat} (hi:i < S.files.length):∃g cap,X.fv=.slice (some ⟨g,0,none⟩) S.files.length cap/\w.cell? ⟨g,i,none⟩=some (ptrV (X.ps.getD i (0,Go.undef)))/\S.files.length<=9223372036854775807:=by
 have H:i < X.ps.length:=by rw[h.flen];exact hi
 have o:=h.files;obtain⟨g,cap,C⟩:∃g cap,X.fv=.slice (some ⟨g,0,none⟩) S.files.length cap:=by
  rcases o.2 with ⟨_,J⟩|⟨g,cap,cur,I,_⟩
  ·omega
  ·exact⟨g,cap,I⟩
 have E:S.files.length<=9223372036854775807:=by
  obtain⟨A,c,e,h1,h2,_⟩:=ay o;unfold maxLen at h2;omega
 rw[C]at o;have z:=o.cells (g:=g) rfl i (ptrV (X.ps.getD i (0,Go.undef))) (by simp[t_,H]);rw[oj4]at z;exact⟨g,cap,C,z,E⟩
theorem find_any (X:Dw) (S:Sd) (s:ByteArray) (hs:s.size<=maxLen) (w:World) (h:DK w X S) (hl:Sd.jx1 S.names S.files.length):
  Calls prog 143 #[X.d,.string s] w fun e w'=>e=.returned (match S.names.get s.data.toList with
   |none=>.pointer none
   |some i=>ptrV (X.ps.getD i (0,Go.undef)))/\w=w':=by
 have E:=h.box;have d2:=E.cell 2;have d1:=E.cell 1;simp only[Dw.cells,gE0,gE1]at d1 d2;have H:=cz4 hs;have hn:=h.names;have o:=Nm.dx2 S.names s.data.toList
 cases I:S.names.get s.data.toList with
 |some i=>
  have hi:=hl _ (Nm.get_mem I);simp only at hi;obtain⟨g,cap,J,O,a1⟩:=h.fileAt hi;have a5:(i:Int) < (S.files.length:Int):=o_
  rw[J]at d1;rw[I]at o;have Q:=H_ o;have HA:=H_ (fun z=>Nm.ky3 S.names s.data.toList z I);clear o J I;go_enter func143,ntmps143;go_wp2_with (at_lookup;refine wpList_lookup_own_ok_int _ rfl _ _ 45 rfl 9 3 .i64 nz1 underlying45 underlying3 (ej2 _) X.nb _ _ rfl hn _ _ rfl H ?_;intro c C U;rw[HA.out]at C;injection C with C;injection C with _ C;subst C;rw[Q.out]);go_wp2;go_ret;exact⟨rfl,rfl⟩
 |none=>
  rw[I]at o;have Q:=H_ o;clear o I;go_enter func143,ntmps143;go_wp2_with (at_lookup;refine wpList_lookup_own_ok_int _ rfl _ _ 45 rfl 9 3 .i64 nz1 underlying45 underlying3 (ej2 _) X.nb _ _ rfl hn _ _ rfl H ?_;intro c C U;rw[Q.out]);go_wp2;go_ret;exact⟨rfl,rfl⟩
def strs (ss:List ByteArray):List Value:=ss.map Value.string
theorem strs_get (o:List ByteArray) (k:Nat):(strs o)[k]?=(o[k]?).map Value.string:=by simp[strs]
theorem Row.st {B n:Nat} {w:World} {A:Option Addr} {o:List ByteArray} (h:Row B w A n 1 (strs o)) {k:Nat} (E:k < n):∃a,∃C:k < o.length,A=some a/\a.block < B/\w.cell? (a.add k)=some (.string o[k]):=by
 obtain⟨a,v,e,H,z,I⟩:=h.at1 E;have C:k < o.length:=by
  have:=h.len;simp[strs]at this;omega
 rw[strs_get,j_ C]at z;injection z with z;subst z;exact⟨a,C,e,H,I⟩
theorem mv4 (g:Nat) (j:Nat) (c:Int) (w:World) (h:w.cell? (g,j)=some (.int .i64 c)) (z:w.frozen? (g,j)=false):
  Calls prog 189 #[.pointer (some ⟨g,j,none⟩),.int .i64 1] w fun e w'=>∃v,e=.returned v/\w'=w.setCell (g,j) (.int .i64 (wrap64 (c+1))):=by
 have o:=run_call_add (P:=prog) func235 (by kernel_rfl) (by kernel_rfl) (by kernel_rfl) .i64 (by kernel_rfl) (y:=1) (s:=wrap64 (c+1)) h z (by simp[go_sem,IntKind.wrap_i64,wrap64]);go_enter func189,ntmps189;go_wp2;go_ret;exact⟨_,rfl,rfl⟩
def texts (ss:List ByteArray):List (List UInt8):=ss.map fun s=>s.data.toList
theorem fw4 {o:List ByteArray} {k:Nat} (h:k < o.length):(texts (o.take (k+1))).all Sd.named=((texts (o.take k)).all Sd.named&&Sd.named (o[k]).data.toList):=by
 unfold texts;rw[v_ h,aK_,bT_];simp
theorem hy5 {o:List ByteArray} {k:Nat} (h:k < o.length) (z:Sd.named (o[k]).data.toList=false):(texts o).all Sd.named=false:=by
 rw[List.all_eq_false];exact⟨_,aP_.2 ⟨o[k],w_ h,rfl⟩,by simp[z]⟩
theorem zq2 (X:Dw) (S:Sd) (A:Option Addr) (n c:Nat) (U:List ByteArray) (hn:n<=1000) (b2:∀s∈U,s.size<=maxLen) (e7:S.stop<=9223372036854775807) (e9:S.fail<=9223372036854775807) (w:World) (h:DK w X S) (hr:Row w w A n 1 (strs U)):
  Calls prog 146 #[X.d,.slice A n c] w fun e w'=>e=.returned (.int .i64 ((S.call (texts U)).2:Int))/\DK w' X (S.call (texts U)).1/\Chg [X.d] w w':=by
 have a2:=h.box;have b9:=H_ b2;clear b2;have b3:U.length=n:=by simpa [strs] using hr.len
 obtain⟨S',b0⟩:=n_ ((S.call (texts U)).1);obtain⟨er,b1⟩:=n_ ((S.call (texts U)).2);rw[<-b0,<-b1];have HS:=H_ b0;have HE:=H_ b1;clear b0 b1;have d0:=H_ b3;clear b3;go_enter func146,ntmps146;go_wp2
 go_loop [9] (fun i=>∃k:Nat,k<=n/\i=.int .i64 k/\Hid ((texts (U.take k)).all Sd.named=true)) (fun i=>n - (intOf i).toNat)
 case atStart=>exact⟨0,A_ _,rfl,rfl⟩
 case round=>
  obtain⟨k,hk,rfl,HA⟩:=hrel
  by_cases d1:k < n
  ·obtain⟨a,hl,rfl,_,e'⟩:=hr.st d1
   have b5:=b9.out U[k] (w_ hl);have HT:=fw4 hl;have HF:=@hy5 U k hl;generalize U[k]=s at *;go_wp2_with fail
   cases a5:Sd.named s.data.toList with
   |true=>
    have d5:Hid ((texts (U.take (k+1))).all Sd.named=true):=by
     have h1:=HA.out;show _=true
     rw[HT,h1,a5];rfl
    clear HT HF;refine(fq2 s b5 w).mono ?_;rintro e w1 ⟨rfl,rfl⟩;rw[a5];clear a5;go_wp2
    go_round
    case rel=>exact⟨k+1,o_,by go_num,d5⟩
    case measure=>simp[intOf];omega
   |false=>
    have a7:=HF a5;have e1:er=10:=by rw[show er=_ from HE.out];simp[Sd.call,a7]
    have O:S'=S:=by rw[show S'=_ from HS.out];simp[Sd.call,a7]
    clear HT HF a7;subst e1 O;refine(fq2 s b5 w).mono ?_;rintro e w1 ⟨rfl,rfl⟩;rw[a5];clear a5;go_wp2;go_ret;exact⟨rfl,h,Chg.refl _ _⟩
  ·have C:(texts U).all Sd.named=true:=by
    have h1:=HA.out;have h2:=d0.out
    rwa [i_ o_]at h1
   go_wp2_with fail;refine(mv4 X.d 5 S.calls w (by rw[a2.cell 5];rfl) (a2.free 5)).mono ?_;rintro e w1 ⟨v,rfl,rfl⟩;have z:=a2.store 5 (.int .i64 (wrap64 (S.calls+1)));have H:=tq w ⟨X.d,5,none⟩ (.int .i64 (wrap64 (S.calls+1)));generalize hV:w.setCell (X.d,5) (.int .i64 (wrap64 (S.calls+1)))=V at *;clear hV a2;have d7:=z.cell 7;have d8:=z.cell 8;have d6:=z.cell 6;have f6:=z.free 6;have f7:=z.free 7;have f8:=z.free 8;simp only[Dw.cells,gE0,gE1,Q_,T_]at d6 d7 d8;have E:=uw2 X.d S.dead V (by rw[z.cell 6];rfl);have key:=fun(S2:Sd) (w2:World) (hc:Chg [X.d] V w2) (hb:BoxO w2 54 X.d (X.cells S2)) (e1:S2.names=S.names) (O:S2.lasted=S.lasted) (e3:S2.files=S.files) (e4:S2.turns=S.turns)=>(⟨h.fv6 (H.trans hc (fun g hg=>.inl hg)) hb e1 O e3 e4,H.trans hc (fun g hg=>.inl hg)⟩:DK w2 X S2/\Chg [X.d] w w2);have hX:∀b:Bool,(texts U).all Sd.named=false->b=false:=fun _ h=>by rw[C]at h;cases h
   clear hX
   cases a6:S.dead with
   |true=>
    rw[a6]at E;have e1:er=50:=by rw[show er=_ from HE.out];simp[Sd.call,C,a6]
    have O:S'={ S with calls:=wrap64 (S.calls+1) }:=by rw[show S'=_ from HS.out];simp[Sd.call,C,a6]
    have J:=key S' V (Chg.refl _ _) (by rw[O];exact z) (by rw[O]) (by rw[O]) (by rw[O]) (by rw[O]);have Q:=H_ J;clear O J key C a6 h H;subst e1;go_wp2_with fail;refine E.mono ?_;rintro e w1 ⟨rfl,rfl⟩;go_wp2;go_ret;exact⟨rfl,Q⟩
   |false=>
    rw[a6]at E;obtain⟨q,fs,nm,la,tu,ca,de,st,I⟩:=S;simp only at *;subst a6;have o:=fun(a:Sd×Nat) (hh:Sd.call ⟨q,fs,nm,la,tu,ca,false,st,I⟩ (texts U)=a)=>(⟨HS.trans (congrArg Prod.fst hh),HE.trans (congrArg Prod.snd hh)⟩:S'=a.1/\er=a.2)
    rcases ad_ 0 st with s0|s0
    ·rcases ad_ 1 st with s1|s1
     ·have t1:((st:Int) - 1==0)=false:=by simp;omega
      rcases ad_ 0 I with a0|a0
      ·rcases ad_ 1 I with a1|a1
       ·have t2:((I:Int) - 1==0)=false:=by simp;omega
        obtain⟨g1,g2⟩:=o (⟨q,fs,nm,la,tu,wrap64 (ca+1),false,st - 1,I - 1⟩,0) (by simp[Sd.call,C,show ¬(st - 1=0) by omega,s0,show ¬(I - 1=0) by omega,a0]);have e1:((st - 1:Nat):Int)=(st:Int) - 1:=o_
        have O:((I - 1:Nat):Int)=(I:Int) - 1:=o_
        have J:=key S' (((V.setCell (X.d,7) (.int .i64 ((st:Int) - 1))).setCell (X.d,6) (.bool false)).setCell (X.d,8) (.int .i64 ((I:Int) - 1))) ((((Chg.refl _ _).setCell _ (.inl s_)).setCell _ (.inl s_)).setCell _ (.inl s_)) (by
         rw[g1,Dw.cells];simp only[e1,O];exact(((z.store 7 (.int .i64 ((st:Int) - 1))).store 6 (.bool false)).store 8 (.int .i64 ((I:Int) - 1)))) (by rw[g1]) (by rw[g1]) (by rw[g1]) (by rw[g1])
        have Q:=H_ J;simp only at g2;clear g1 J key C h H o e1 O;subst g2;go_wp2_with fail;refine E.mono ?_;rintro e w1 ⟨rfl,rfl⟩;go_wp2;go_ret;exact⟨rfl,Q⟩
       ·obtain rfl:I=1:=o_
        obtain⟨g1,g2⟩:=o (⟨q,fs,nm,la,tu,wrap64 (ca+1),false,st - 1,0⟩,15) (by simp[Sd.call,C,show ¬(st - 1=0) by omega,s0]);have e1:((st - 1:Nat):Int)=(st:Int) - 1:=o_
        have J:=key S' (((V.setCell (X.d,7) (.int .i64 ((st:Int) - 1))).setCell (X.d,6) (.bool false)).setCell (X.d,8) (.int .i64 0)) ((((Chg.refl _ _).setCell _ (.inl s_)).setCell _ (.inl s_)).setCell _ (.inl s_)) (by
         rw[g1,Dw.cells];simp only[e1];exact(((z.store 7 (.int .i64 ((st:Int) - 1))).store 6 (.bool false)).store 8 (.int .i64 0))) (by rw[g1]) (by rw[g1]) (by rw[g1]) (by rw[g1])
        have Q:=H_ J;simp only at g2;clear g1 J key C h H o e1;subst g2;go_wp2_with fail;refine E.mono ?_;rintro e w1 ⟨rfl,rfl⟩;go_wp2;go_ret;exact⟨rfl,Q⟩
      ·obtain rfl:I=0:=o_
       obtain⟨g1,g2⟩:=o (⟨q,fs,nm,la,tu,wrap64 (ca+1),false,st - 1,0⟩,0) (by simp[Sd.call,C,show ¬(st - 1=0) by omega,s0]);have e1:((st - 1:Nat):Int)=(st:Int) - 1:=o_
       have J:=key S' ((V.setCell (X.d,7) (.int .i64 ((st:Int) - 1))).setCell (X.d,6) (.bool false)) (((Chg.refl _ _).setCell _ (.inl s_)).setCell _ (.inl s_)) (by
        rw[g1,Dw.cells];simp only[e1];exact((z.store 7 (.int .i64 ((st:Int) - 1))).store 6 (.bool false))) (by rw[g1]) (by rw[g1]) (by rw[g1]) (by rw[g1])
       have Q:=H_ J;simp only at g2;clear g1 J key C h H o e1;subst g2;go_wp2_with fail;refine E.mono ?_;rintro e w1 ⟨rfl,rfl⟩;go_wp2;go_ret;exact⟨rfl,Q⟩
     ·obtain rfl:st=1:=o_
      rcases ad_ 0 I with a0|a0
      ·rcases ad_ 1 I with a1|a1
       ·have t2:((I:Int) - 1==0)=false:=by simp;omega
        obtain⟨g1,g2⟩:=o (⟨q,fs,nm,la,tu,wrap64 (ca+1),true,0,I - 1⟩,0) (by simp[Sd.call,C,show ¬(I - 1=0) by omega,a0]);have O:((I - 1:Nat):Int)=(I:Int) - 1:=o_
        have J:=key S' (((V.setCell (X.d,7) (.int .i64 0)).setCell (X.d,6) (.bool true)).setCell (X.d,8) (.int .i64 ((I:Int) - 1))) ((((Chg.refl _ _).setCell _ (.inl s_)).setCell _ (.inl s_)).setCell _ (.inl s_)) (by
         rw[g1,Dw.cells];simp only[O];exact(((z.store 7 (.int .i64 0)).store 6 (.bool true)).store 8 (.int .i64 ((I:Int) - 1)))) (by rw[g1]) (by rw[g1]) (by rw[g1]) (by rw[g1])
        have Q:=H_ J;simp only at g2;clear g1 J key C h H o O;subst g2;go_wp2_with fail;refine E.mono ?_;rintro e w1 ⟨rfl,rfl⟩;go_wp2;go_ret;exact⟨rfl,Q⟩
       ·obtain rfl:I=1:=o_
        obtain⟨g1,g2⟩:=o (⟨q,fs,nm,la,tu,wrap64 (ca+1),true,0,0⟩,15) (by simp[Sd.call,C]);have J:=key S' (((V.setCell (X.d,7) (.int .i64 0)).setCell (X.d,6) (.bool true)).setCell (X.d,8) (.int .i64 0)) ((((Chg.refl _ _).setCell _ (.inl s_)).setCell _ (.inl s_)).setCell _ (.inl s_)) (by
         rw[g1,Dw.cells];exact(((z.store 7 (.int .i64 0)).store 6 (.bool true)).store 8 (.int .i64 0))) (by rw[g1]) (by rw[g1]) (by rw[g1]) (by rw[g1])
        have Q:=H_ J;simp only at g2;clear g1 J key C h H o;subst g2;go_wp2_with fail;refine E.mono ?_;rintro e w1 ⟨rfl,rfl⟩;go_wp2;go_ret;exact⟨rfl,Q⟩
      ·obtain rfl:I=0:=o_
       obtain⟨g1,g2⟩:=o (⟨q,fs,nm,la,tu,wrap64 (ca+1),true,0,0⟩,0) (by simp[Sd.call,C]);have J:=key S' ((V.setCell (X.d,7) (.int .i64 0)).setCell (X.d,6) (.bool true)) (((Chg.refl _ _).setCell _ (.inl s_)).setCell _ (.inl s_)) (by
        rw[g1,Dw.cells];exact((z.store 7 (.int .i64 0)).store 6 (.bool true))) (by rw[g1]) (by rw[g1]) (by rw[g1]) (by rw[g1])
       have Q:=H_ J;simp only at g2;clear g1 J key C h H o;subst g2;go_wp2_with fail;refine E.mono ?_;rintro e w1 ⟨rfl,rfl⟩;go_wp2;go_ret;exact⟨rfl,Q⟩
    ·obtain rfl:st=0:=o_
     rcases ad_ 0 I with a0|a0
     ·rcases ad_ 1 I with a1|a1
      ·have t2:((I:Int) - 1==0)=false:=by simp;omega
       obtain⟨g1,g2⟩:=o (⟨q,fs,nm,la,tu,wrap64 (ca+1),false,0,I - 1⟩,0) (by simp[Sd.call,C,show ¬(I - 1=0) by omega,a0]);have O:((I - 1:Nat):Int)=(I:Int) - 1:=o_
       have J:=key S' (V.setCell (X.d,8) (.int .i64 ((I:Int) - 1))) ((Chg.refl _ _).setCell _ (.inl s_)) (by
        rw[g1,Dw.cells];simp only[O];exact(z.store 8 (.int .i64 ((I:Int) - 1)))) (by rw[g1]) (by rw[g1]) (by rw[g1]) (by rw[g1])
       have Q:=H_ J;simp only at g2;clear g1 J key C h H o O;subst g2;go_wp2_with fail;refine E.mono ?_;rintro e w1 ⟨rfl,rfl⟩;go_wp2;go_ret;exact⟨rfl,Q⟩
      ·obtain rfl:I=1:=o_
       obtain⟨g1,g2⟩:=o (⟨q,fs,nm,la,tu,wrap64 (ca+1),false,0,0⟩,15) (by simp[Sd.call,C]);have J:=key S' (V.setCell (X.d,8) (.int .i64 0)) ((Chg.refl _ _).setCell _ (.inl s_)) (by
        rw[g1,Dw.cells];exact(z.store 8 (.int .i64 0))) (by rw[g1]) (by rw[g1]) (by rw[g1]) (by rw[g1])
       have Q:=H_ J;simp only at g2;clear g1 J key C h H o;subst g2;go_wp2_with fail;refine E.mono ?_;rintro e w1 ⟨rfl,rfl⟩;go_wp2;go_ret;exact⟨rfl,Q⟩
     ·obtain rfl:I=0:=o_
      obtain⟨g1,g2⟩:=o (⟨q,fs,nm,la,tu,wrap64 (ca+1),false,0,0⟩,0) (by simp[Sd.call,C]);have J:=key S' V (Chg.refl _ _) (by
       rw[g1,Dw.cells];exact z) (by rw[g1]) (by rw[g1]) (by rw[g1]) (by rw[g1])
      have Q:=H_ J;simp only at g2;clear g1 J key C h H o;subst g2;go_wp2_with fail;refine E.mono ?_;rintro e w1 ⟨rfl,rfl⟩;go_wp2;go_ret;exact⟨rfl,Q⟩
def sumL (f:DataW Unit->Nat) (left:Lit->Bool) (es:List (Lit×DataW Unit)):Nat:=((es.filter fun p=>!left p.1).map fun p=>f p.2).sum
theorem bj3 (f:DataW Unit->Nat) (left:Lit->Bool):∀(es:List (Lit×DataW Unit)),es.Pairwise (fun p q=>p.1≠q.1)->(∀p∈es,WideAt.IsKeyLit p.1)->∀o∈es,left o.1=true->sumL f (fun z=>left z&&!z.sameKey o.1) es=sumL f left es+f o.2
 |[],_,_,o,h,_=>by cases h
 |q::r,O,H,o,h,I=>by
  obtain⟨h1,h2⟩:=ao_.1 O
  rcases h_.1 h with rfl|h
  ·have J:sumL f (fun z=>left z&&!z.sameKey o.1) r=sumL f left r:=by
    unfold sumL
    congr 2
    apply List.filter_congr;intro x Q;have e:=Maps.sameKey_ne (h1 x Q).symm;simp[e]
   have U:=WideAt.sameKey_self (H o s_);have e3:sumL f (fun z=>left z&&!z.sameKey o.1) (o::r)=f o.2+sumL f (fun z=>left z&&!z.sameKey o.1) r:=by simp[sumL,U]
   have e4:sumL f left (o::r)=sumL f left r:=by simp[sumL,I]
   omega
  ·have ih:=bj3 f left r h2 (fun p C=>H p (by simp[C])) o h I
   have J:q.1.sameKey o.1=false:=Maps.sameKey_ne (h1 o h);have e3:sumL f (fun z=>left z&&!z.sameKey o.1) (q::r)=(if left q.1=true then 0 else f q.2)+sumL f (fun z=>left z&&!z.sameKey o.1) r:=by
    cases E:left q.1<;>simp[sumL,J,E]
   have e4:sumL f left (q::r)=(if left q.1=true then 0 else f q.2)+sumL f left r:=by
    cases E:left q.1<;>simp[sumL,E]
   omega
theorem ow4 (f:DataW Unit->Nat) (left:Lit->Bool):∀es:List (Lit×DataW Unit),sumL f left es<=(es.map fun p=>f p.2).sum
 |[]=>by simp[sumL]
 |q::r=>by
  have C:=ow4 f left r;have o:sumL f left (q::r)=(if left q.1=true then 0 else f q.2)+sumL f left r:=by
   cases z:left q.1<;>simp[sumL,z]
  simp only[al_,bC_];split at o<;>omega
theorem ky5 (f:DataW Unit->Nat) (left:Lit->Bool) (es:List (Lit×DataW Unit)) (h:∀k,left k=false):sumL f left es=(es.map fun p=>f p.2).sum:=by
 unfold sumL;rw[a8_.2 (fun p _=>by simp[h])]
theorem yx4 (f:DataW Unit->Nat) (left:Lit->Bool) (es:List (Lit×DataW Unit)) (h:∀p∈es,left p.1=true):sumL f left es=0:=by
 unfold sumL;rw[b2_.2 (fun p o=>by simp[h p o])];rfl
def key (s:ByteArray):Lit:=.string s.data.toList
theorem aj1 {k:Value} {kl:Lit} (h:keyOf prog 9 k=some kl):∃s,k=.string s/\kl=key s:=by
 obtain⟨s,o,z,_⟩:=Go.WideMaps.string_of_keyOf underlying9 h;exact⟨s,o,z⟩
def lenOf (fs:List (List UInt8×Nat)) (x:DataW Unit):Nat:=match x with
 |.lit (.int _ c)=>(fs.getD c.toNat ([],0)).1.length
 |_=>0
theorem sx5 (S:Sd):S.used=((S.names.map Nm.lit1).map fun p=>lenOf S.files p.2).sum:=by
 unfold Sd.used;rw[cm_];rfl
theorem ey5 (X:Dw) (S:Sd) (w:World) (h:DK w X S) (hl:Sd.jx1 S.names S.files.length) (hu:S.used<=1099511627776):
  Calls prog 233 #[X.d] w fun e w'=>e=.returned (.int .i64 S.used)/\Below w w w':=by
 have a7:=h.box;have d2:=a7.cell 2;simp only[Dw.cells,gE0,gE1]at d2;have a2:=h.names;obtain⟨es,C,d',a8⟩:=a2.entries nz1;have a4:es=S.names.map Nm.lit1:=by
  unfold Nm.enc at C;injection C with C;exact C.symm
 clear C;have E:S.used=(es.map fun p=>lenOf S.files p.2).sum:=by rw[a4,sx5]
 have a9:=H_ a4;obtain⟨U,hU⟩:=n_ S.used;rw[<-hU]at E hu ⊢;have a':=H_ E;clear E a4 hU;obtain⟨M,hM⟩:=n_ (Nm.enc S.names);have b0:w.ownsMap prog 9 (plainElem (H:=Unit) prog 3) X.nb S.names.length M:=by rw[hM];exact a2
 have HM:Hid (M=.map es):=by rw[hM,a9.out];exact rfl
 have b1:=H_ hM;clear hM a2;go_enter func233,ntmps233;go_wp2_with (first
  |(at_range;refine wpList_range_own _ rfl _ 45 rfl 9 3 nz1 underlying45 _ X.nb _ M rfl b0 ?_;intro w0 b2 e2 g')
  |go_in)
 go_frame
 have e3:Below w w w0:=b0_.grown e2 l_ (fun k hk=>by cases hk)
 go_loopw [3] (fun s wr=>∃(left:Lit->Bool) (a5:Nat),s=.int .i64 (sumL (lenOf S.files) left es:Int)/\wr.ranges prog 9 (plainElem (H:=Unit) prog 3) X.nb w S.names.length M left a5/\Below w w wr) (fun _ wr=>wr.rangeLeft X.nb w)
 case atStart=>
  refine⟨_,_,?_,b2,e3⟩;rw[yx4 _ _ _ (fun p hp=>by
   rw[HM.out,Maps.has_eq,aF_];exact⟨p,hp,WideAt.sameKey_self (a8 p hp)⟩)]
  rfl
 case round=>
  obtain⟨left,a5,rfl,b3,hb⟩:=hrel;go_wp2_with (first
   |(at_next;refine wpList_next_ranges _ rfl _ rfl 9 nz1 _ Value.string (Value.int .i64) ?invK ?invV X.nb w _ M left a5 rfl b3 ?hDone ?hMore)
   |go_in)
  case invK=>exact fun key kl hk=>by obtain⟨s,rfl,_⟩:=aj1 hk;exact⟨s,rfl⟩
  case invV=>exact fun v y hv=>by obtain⟨c,rfl,_⟩:=plainElem_int_inv underlying3 hv;exact⟨c,rfl⟩
  case hDone=>
   intro _ e6;rw[ky5 _ _ _ e6,<-show U=_ from a'.out];go_wp2;go_ret;exact⟨rfl,hb⟩
  case hMore=>
   intro x c kl y yp w1 b5 b6 b7 hv Q I e7 e9 h0 h6;obtain⟨s,e',b8⟩:=aj1 b6
   cases e'
   have b9:Below w w w1:=hb.grown e9 hb.size (fun j hj=>by cases hj;exact B_ _);have a6:=h.below b9;have J:Maps.has M kl=true:=Maps.has_true_of_atKey Q;subst b8;unfold key at J Q b7 I;obtain⟨i,a0⟩:∃i,S.names.get x.data.toList=some i:=by
    rw[show M=_ from b1.out,Nm.dx2]at J;exact cu_.1 J
   have hi:=hl _ (Nm.get_mem a0);simp only at hi;have b':=fun z=>Nm.ky3 S.names x.data.toList z a0;have hy:y=.lit (.int .i64 (i:Int)):=by rw[<-Q .nil,show M=_ from b1.out,b']
   obtain⟨c',f0,d0,_⟩:=plainElem_int_inv underlying3 hv
   cases f0
   have f1:c=(i:Int):=by
    have h2:=congrArg Prod.fst d0;simp only at h2;rw[h2]at hy;injection hy with hy;injection hy with _ hy
   subst f1;have d1:Nm.lit1 (x.data.toList,i)∈es:=by
    rw[show es=_ from a9.out];exact aP_.2 ⟨_,Nm.get_mem a0,rfl⟩
   have o:=bj3 (lenOf S.files) left es d' a8 _ d1 b7;have f2:=ow4 (lenOf S.files) (fun z=>left z&&!z.sameKey (.string x.data.toList)) es;simp only[Nm.lit1]at o;have d3:i < X.ps.length:=by rw[h.flen];exact hi
   have f3:lenOf S.files (.lit (.int .i64 (i:Int)))=(S.files[i]).1.length:=by simp[lenOf,hi]
   rw[f3]at o;obtain⟨d4,d5⟩:=a6.file i hi d3;have e1:=a6.box.cell 1;simp only[Dw.cells,gE0,gE1]at e1;obtain⟨g,cap,d6,O,f8⟩:=a6.fileAt hi;rw[d6]at e1;have a1:X.ps.getD i (0,Go.undef)=X.ps[i]:=by simp[t_,d3]
   rw[a1]at O;unfold ptrV at O;have e0:=d4.c0;obtain⟨fA,fc,d7,_,_,_⟩:=ay d5;rw[d7]at e0;have h8:(i:Int) < (S.files.length:Int):=o_
   have E:U=(es.map fun p=>lenOf S.files p.2).sum:=a';have h9:sumL (lenOf S.files) left es+S.files[i].1.length<=1099511627776:=o_
   have f4:=H_ o;generalize (S.files[i]).1.length=F at *;generalize hS:sumL (lenOf S.files) left es=T at *;clear E o f2 Q b' hv d0 d5 d4 a1 a0 d1 d6;go_wp2;go_roundw
   case rel=>exact⟨_,b5,by rw[f4.out];simp,I,b9⟩
   case measure=>rw[I.left_eq,b3.left_eq];exact e7
def sq3 (t:Tn):Value:=.agg #[(t.kind:Int),(t.file:Int),.string (str t.a),.string (str t.b)]
theorem ox4 (k f:Nat) (a b:List UInt8) (ha:a.length<=maxLen) (Q:b.length<=maxLen) (hf:f<=9223372036854775807) (nb n:Nat) (M:Nm) (w:World) (h:uy w nb n M) (hn:n < maxLen) (hk:k=1\/k=2\/k=3):
  Calls prog 31 #[sq3 ⟨k,f,a,b⟩,.map (some nb)] w fun e w'=>e=.returned (.tuple #[])/\uy w' nb (n+1) (Tn.go ⟨k,f,a,b⟩ M)/\Chg [nb] w w':=by
 have J:keyOf prog 9 (.string (str a))=some (.string a):=by rw[cz4 (by rw[jy];exact ha),kz]
 have a4:keyOf prog 9 (.string (str b))=some (.string b):=by rw[cz4 (by rw[jy];exact Q),kz]
 have b2:=h.lt;unfold sq3;simp only
 rcases hk with rfl|rfl|rfl
 ·have E:Tn.go ⟨1,f,a,b⟩ M=M.put a f:=rfl
  rw[E];have a5:(Lit.int .i64 f).wf=true:=WalkArith.wf_i64 o_;have HP:=H_ (Nm.vj2 M a f);go_enter func31,ntmps31;go_wp2_with (at_mapUpdate;refine wpList_mapUpdate_own _ rfl _ _ _ 45 rfl 9 3 nz1 underlying45 _ nb n _ rfl (h.alloc _) hn _ _ _ rfl rfl J _ [] (plainElem_int underlying3 a5) ?_;intro w1 o C);have hc:Chg [nb] w w1:=(Chg.refl [nb] w|>.alloc _).trans (Chg.qy (F:=[nb]) C (fun b Q=>by cases Q;simp)) (fun g I=>.inl I);rw[HP.out]at o;go_wp2;exact bodyPost_end (v:=.tuple #[]) (by simp[results,go_sem]) rfl ⟨rfl,o,hc⟩
 ·cases I:M.get a with
  |none=>
   have E:Tn.go ⟨2,f,a,b⟩ M=M:=by unfold Tn.go;simp[I]
   rw[E];have HH:Hid (Maps.has (Nm.enc M) (.string a)=false):=by
    have:=Nm.dx2 M a;rw[I]at this;exact this
   clear E I;go_enter func31,ntmps31;go_wp2_with (at_lookup;refine wpList_lookup_own_ok_int _ rfl _ _ 45 rfl 9 3 .i64 nz1 underlying45 underlying3 (ej2 _) nb _ _ rfl (h.alloc _) _ _ rfl J ?_;intro c H a2;rw[HH.out]);have hc:Chg [nb] w (w.alloc (.cells #[.int .i64 2,(f:Int),.string (str a),.string (str b)] 81)):=(Chg.refl [nb] w).alloc _;go_wp2;exact bodyPost_end (v:=.tuple #[]) (by simp[results,go_sem]) rfl ⟨rfl,(h.alloc _).mono o_,hc⟩
  |some i=>
   have E:Tn.go ⟨2,f,a,b⟩ M=(M.put b i).del a:=by unfold Tn.go;simp[I]
   rw[E];have HH:Hid (Maps.has (Nm.enc M) (.string a)=true):=by
    have:=Nm.dx2 M a;rw[I]at this;exact this
   have HA:=H_ (fun z=>Nm.ky3 M a z I);have HP:=H_ (Nm.vj2 M b i);have HD:=H_ (Nm.wx4 (M.put b i) a);clear E;go_enter func31,ntmps31;go_wp2_with (first
    |(at_lookup;refine wpList_lookup_own_ok_int _ rfl _ _ 45 rfl 9 3 .i64 nz1 underlying45 underlying3 (ej2 _) nb _ _ rfl (h.alloc _) _ _ rfl J ?_;intro c H a2;rw[HA.out]at H;injection H with H;injection H with _ H;subst H;rw[HH.out])
    |(at_mapUpdate;refine wpList_mapUpdate_own _ rfl _ _ _ 45 rfl 9 3 nz1 underlying45 _ nb n _ rfl (h.alloc _) hn _ _ _ rfl rfl a4 _ [] (plainElem_int underlying3 a2) ?_;intro w1 o C;have a9:Chg [nb] w w1:=(Chg.refl [nb] w|>.alloc _).trans (Chg.qy (F:=[nb]) C (fun b Q=>by cases Q;simp)) (fun g I=>.inl I);have b5:w1.cell? (w,2)=some (.string (str a)):=(X_ (C.block w s_ (fun e=>by injection e with e;omega))).trans (by rw[World.cell?_alloc_at _ _ _ _ rfl];rfl))
    |(at_delete;refine wpList_delete_own _ rfl _ _ 45 9 rfl 3 nz1 underlying45 _ nb (n+1) _ rfl o _ _ rfl J ?_;intro w2 O U))
   have hc:Chg [nb] w w2:=a9.trans (Chg.qy (F:=[nb]) U.grown (fun b Q=>by cases Q;simp)) (fun g I=>.inl I);rw[HP.out,HD.out]at O;go_wp2;exact bodyPost_end (v:=.tuple #[]) (by simp[results,go_sem]) rfl ⟨rfl,O,hc⟩
 ·have E:Tn.go ⟨3,f,a,b⟩ M=M.del a:=rfl
  rw[E];have HD:=H_ (Nm.wx4 M a);go_enter func31,ntmps31;go_wp2_with (at_delete;refine wpList_delete_own _ rfl _ _ 45 9 rfl 3 nz1 underlying45 _ nb n _ rfl (h.alloc _) _ _ rfl J ?_;intro w1 o a0);have hc:Chg [nb] w w1:=(Chg.refl [nb] w|>.alloc _).trans (Chg.qy (F:=[nb]) a0.grown (fun b Q=>by cases Q;simp)) (fun g I=>.inl I);rw[HD.out]at o;go_wp2;exact bodyPost_end (v:=.tuple #[]) (by simp[results,go_sem]) rfl ⟨rfl,o.mono o_,hc⟩
end
end Go.Proofs.YtfbkjjdfboagfaaGreatDoor
