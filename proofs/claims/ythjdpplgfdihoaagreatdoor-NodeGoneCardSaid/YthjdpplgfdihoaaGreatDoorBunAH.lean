/- Texts Disk, DiskA, DiskB, DiskC, DiskD in one. No conditions. -/
import Derived.Test.YthjdpplgfdihoaaGreatDoorBunAD
import Derived.Test.YthjdpplgfdihoaaGreatDoorBunAC
import Derived.Maps.RangeWalk

set_option linter.unusedSimpArgs false
set_option linter.unusedVariables false
set_option maxRecDepth 100000
set_option maxHeartbeats 16000000
namespace Go.Proofs.YthjdpplgfdihoaaGreatDoor
section
open Go Go.RowKit
def str (l:List UInt8):ByteArray:=⟨l.toArray⟩
theorem bj1 (s:ByteArray):str s.data.toList=s:=by simp[str]
theorem nz (l:List UInt8):(str l).data.toList=l:=by simp[str]
theorem kz (l:List UInt8):(str l).size=l.length:=by simp[str,ByteArray.size]
structure Dw where
 d:Nat
 nb:Nat
 lb:Nat
 fv:Value
 tv:Value
 ps:List (Nat×Value)
def gq (p:Nat×Value):List Nat:=p.1::p.2.ownBlock.toList
def Dw.foot (X:Dw):List Nat:=[X.d] ++([X.nb] ++([X.lb] ++(X.fv.ownBlock.toList++(X.tv.ownBlock.toList++X.ps.flatMap gq))))
def ptrV (p:Nat×Value):Value:=.pointer (some ⟨p.1,0,none⟩)
def zk (t:Tn):List Value:=[.int .i64 (t.kind:Int),.int .i64 (t.file:Int),.string (str t.a),.string (str t.b)]
structure tw1 (w:World) (p:Nat×Value) (f:List UInt8×Nat):Prop where
 box:BoxO w 116 p.1 [p.2,.int .i64 (f.2:Int)]
 row:w.ownsRow 0 5 1 p.2 f.1.length (bts f.1)
abbrev ax1 (w:World) (nb n:Nat) (M:Nm):Prop:=w.ownsMap Tryz.prog 9 (plainElem (H:=Unit) Tryz.prog 3) nb n (Nm.enc M)
def Dw.cells (X:Dw) (S:Sd):List Value:=[.int .i64 (S.quota:Int),X.fv,.map (some X.nb),.map (some X.lb),X.tv,.int .i64 S.calls,.bool S.dead,.int .i64 (S.stop:Int),.int .i64 (S.fail:Int)]
structure DK (w:World) (X:Dw) (S:Sd):Prop where
 box:BoxO w 99 X.d (X.cells S)
 names:ax1 w X.nb S.names.length S.names
 lasted:ax1 w X.lb S.lasted.length S.lasted
 files:w.ownsRow 0 114 1 X.fv S.files.length (X.ps.map ptrV)
 file:∀i (h:i < S.files.length) (h2:i < X.ps.length),tw1 w X.ps[i] S.files[i]
 turns:w.ownsRow 0 118 4 X.tv S.turns.length (S.turns.flatMap zk)
 nodup:X.foot.Nodup
variable {w w':World} {X:Dw} {S:Sd} {G:List Nat}
theorem DK.flen (h:DK w X S):X.ps.length=S.files.length:=by
 have:=h.files.1;simpa using this
theorem jv {base n size:Nat} {e:TypeId} {v:Value} {xs:List Value} (h:w.ownsRow base e size v n xs) (c:Chg G w w') (hg:∀g,v.ownBlock=some g→g∉G):w'.ownsRow base e size v n xs:=by
 refine⟨h.1,?_⟩
 rcases h.2 with h0|⟨g,cap,cur,rfl,h1,h2,r⟩
 ·exact .inl h0
 ·exact .inr ⟨g,cap,cur,rfl,h1,(c.block g (w_.1 h2).1 (hg g rfl)).trans h2,r⟩
theorem ay1 {b n:Nat} {D:DataW Unit} {k e:TypeId} (h:w.ownsMap Tryz.prog k (plainElem (H:=Unit) Tryz.prog e) b n D) (c:Chg G w w') (hg:b∉G):w'.ownsMap Tryz.prog k (plainElem (H:=Unit) Tryz.prog e) b n D:=by
 have hlt:=h.lt;obtain⟨es,clock,hb,r⟩:=h;exact⟨es,clock,(c.block b hlt hg).trans hb,r⟩
theorem ek4 {b n:Nat} {D:DataW Unit} {k e:TypeId} (h:w.ownsMap Tryz.prog k (plainElem (H:=Unit) Tryz.prog e) b n D):w.ownsMap Tryz.prog k (plainElem (H:=Unit) Tryz.prog e) b (Maps.size D) D:=by
 obtain⟨es,clock,hb,F,hs,rfl⟩:=h;exact⟨es,clock,hb,F,by rw[Maps.size_eq,length_sorted];simp,rfl⟩
theorem yw2 {b n:Nat} {M:Nm} (h:ax1 w b n M):ax1 w b M.length M:=by
 have h1:=ek4 h
 rwa [Nm.vy1]at h1
theorem tw1.chg {p:Nat×Value} {f:List UInt8×Nat} (h:tw1 w p f) (c:Chg G w w') (hg:∀g∈gq p,g∉G):tw1 w' p f:=
 ⟨h.box.chg c (hg _ (by simp[gq])),jv h.row c (fun g e=>hg g (by simp[gq,e]))⟩
theorem aj {g:Nat}:g∈X.foot↔g=X.d∨g=X.nb∨g=X.lb∨X.fv.ownBlock=some g∨X.tv.ownBlock=some g∨∃p∈X.ps,g∈gq p:=by
 simp[Dw.foot,O_]
theorem DK.lt (h:DK w X S):∀g∈X.foot,g < w.heap.size:=by
 intro g hg
 rcases aj.1 hg with rfl|rfl|rfl|h1|h1|⟨p,hp,hgp⟩
 ·exact h.box.lt
 ·exact h.names.lt
 ·exact h.lasted.lt
 ·exact(h.files.lt g h1).2
 ·exact(h.turns.lt g h1).2
 ·obtain⟨i,hi,rfl⟩:=aR_ hp
  have hf:=h.file i (by have:=h.flen;omega) hi;simp only[gq,g_,a0_]at hgp
  rcases hgp with rfl|hgp
  ·exact hf.box.lt
  ·exact(hf.row.lt g hgp).2
structure Apart (X:Dw):Prop where
 d_nb:X.d≠X.nb
 d_lb:X.d≠X.lb
 nb_lb:X.nb≠X.lb
 fv:∀g,X.fv.ownBlock=some g→g≠X.d∧g≠X.nb∧g≠X.lb∧X.tv.ownBlock≠some g
 tv:∀g,X.tv.ownBlock=some g→g≠X.d∧g≠X.nb∧g≠X.lb∧X.fv.ownBlock≠some g
 ps:∀p∈X.ps,∀g∈gq p,g≠X.d∧g≠X.nb∧g≠X.lb∧X.fv.ownBlock≠some g∧X.tv.ownBlock≠some g
 each:∀i j (hi:i < X.ps.length) (hj:j < X.ps.length),i≠j→∀g∈gq X.ps[i],g∉gq X.ps[j]
 self:∀p∈X.ps,p.2.ownBlock≠some p.1
theorem gk2 {α:Type} (f:α→List Nat):∀(l:List α),(l.flatMap f).Nodup→(∀i j (hi:i < l.length) (hj:j < l.length),i≠j→∀g∈f l[i],g∉f l[j])∧∀p∈l,(f p).Nodup
 |[],_=>⟨fun i j hi=>by simp at hi,fun p hp=>by cases hp⟩
 |a::r,h=>by
  rw[M_]at h;obtain⟨h1,h2,h3⟩:=aA_.1 h;obtain⟨i1,i2⟩:=gk2 f r h2;refine⟨fun i j hi hj hne g hg hg'=>?_,fun p hp=>?_⟩
  ·rcases i with _|i<;>rcases j with _|j
   ·exact hne rfl
   ·exact h3 g (by simpa using hg) g (O_.2 ⟨r[j]'(by simpa using hj),v_ _,by simpa using hg'⟩) rfl
   ·exact h3 g (by simpa using hg') g (O_.2 ⟨r[i]'(by simpa using hi),v_ _,by simpa using hg⟩) rfl
   ·exact i1 i j (by simpa using hi) (by simpa using hj) (by omega) g (by simpa using hg) (by simpa using hg')
  ·rcases g_.1 hp with rfl|hp
   ·exact h1
   ·exact i2 p hp
theorem nk4 (h:X.foot.Nodup):Apart X:=by
 unfold Dw.foot at h;obtain⟨_,h,a1⟩:=aA_.1 h;obtain⟨_,h,a2⟩:=aA_.1 h;obtain⟨_,h,a3⟩:=aA_.1 h;obtain⟨_,h,a4⟩:=aA_.1 h;obtain⟨_,h,a5⟩:=aA_.1 h;obtain⟨e1,e2⟩:=gk2 gq X.ps h;simp only[q_,c_,a0_,O_]at a1 a2 a3 a4 a5;refine⟨a1 _ rfl _ (.inl rfl),a1 _ rfl _ (.inr (.inl rfl)),a2 _ rfl _ (.inl rfl),fun g e=>⟨(a1 _ rfl g (.inr (.inr (.inl e)))).symm,(a2 _ rfl g (.inr (.inl e))).symm,(a3 _ rfl g (.inl e)).symm,fun e2=>a4 g e g (.inl e2) rfl⟩,
  fun g e=>⟨(a1 _ rfl g (.inr (.inr (.inr (.inl e))))).symm,(a2 _ rfl g (.inr (.inr (.inl e)))).symm,(a3 _ rfl g (.inr (.inl e))).symm,fun e2=>a4 g e2 g (.inl e) rfl⟩,
  fun p hp g hg=>⟨(a1 _ rfl g (.inr (.inr (.inr (.inr ⟨p,hp,hg⟩))))).symm,(a2 _ rfl g (.inr (.inr (.inr ⟨p,hp,hg⟩)))).symm,(a3 _ rfl g (.inr (.inr ⟨p,hp,hg⟩))).symm,fun e2=>a4 g e2 g (.inr ⟨p,hp,hg⟩) rfl,fun e2=>a5 g e2 g ⟨p,hp,hg⟩ rfl⟩,e1,fun p hp e=>?_⟩
 have hn:=e2 p hp;unfold gq at hn;exact(a3_.1 hn).1 (by simp[e])
theorem DK.apart (h:DK w X S):Apart X:=nk4 h.nodup
theorem DK.chg (h:DK w X S) (c:Chg G w w') (hg:∀g∈G,g∉X.foot):DK w' X S:=by
 have hn:∀g∈X.foot,g∉G:=fun g h1 h2=>hg g h2 h1;exact⟨h.box.chg c (hn _ (aj.2 (.inl rfl))),ay1 h.names c (hn _ (aj.2 (.inr (.inl rfl)))),ay1 h.lasted c (hn _ (aj.2 (.inr (.inr (.inl rfl))))),jv h.files c (fun g e=>hn g (aj.2 (.inr (.inr (.inr (.inl e)))))),
  fun i hi h2=>(h.file i hi h2).chg c (fun g e=>hn g (aj.2 (.inr (.inr (.inr (.inr (.inr ⟨_,v_ h2,e⟩))))))),jv h.turns c (fun g e=>hn g (aj.2 (.inr (.inr (.inr (.inr (.inl e))))))),h.nodup⟩
theorem DK.below (h:DK w X S) (hb:Below w.heap.size w w'):DK w' X S:=h.chg (Chg.of_below hb []) (fun g hg=>by cases hg)
theorem DK.jk5 {S':Sd} (h:DK w X S) (c:Chg [X.d] w w') (hb:BoxO w' 99 X.d (X.cells S')) (e1:S'.names=S.names) (e2:S'.lasted=S.lasted) (e3:S'.files=S.files) (e4:S'.turns=S.turns):DK w' X S':=by
 have a:=h.apart;obtain⟨q,fs,nm,la,tu,ca,de,st,fa⟩:=S';simp only at e1 e2 e3 e4;subst e1 e2 e3 e4;exact⟨hb,ay1 h.names c (by simpa using a.d_nb.symm),ay1 h.lasted c (by simpa using a.d_lb.symm),jv h.files c (fun g e=>by simpa using (a.fv g e).1),fun i hi h2=>(h.file i hi h2).chg c (fun g e=>by simpa using (a.ps _ (v_ h2) g e).1),
  jv h.turns c (fun g e=>by simpa using (a.tv g e).1),h.nodup⟩
def Upd (X:Dw) (w w':World) (S':Sd):Prop:=∃X',X'.d=X.d∧DK w' X' S'∧Chg X.foot w w'∧∀g∈X'.foot,g∈X.foot∨w.heap.size≤g
theorem Upd.same (h:DK w' X S) (c:Chg X.foot w w'):Upd X w w' S:=⟨X,rfl,h,c,fun _ hg=>.inl hg⟩
theorem rz1 {l1 a a' l2:List Nat} {n:Nat} (h:(l1++(a++l2)).Nodup) (lt:∀x∈l1++(a++l2),x < n) (ha:a'.Nodup) (hx:∀x∈a',x∈a∨n≤x):(l1++(a'++l2)).Nodup:=by
 obtain⟨h1,h2,h3⟩:=aA_.1 h;obtain⟨h4,h5,h6⟩:=aA_.1 h2;refine aA_.2 ⟨h1,aA_.2 ⟨ha,h5,fun x hx1 y hy e=>?_⟩,fun x hx1 y hy e=>?_⟩
 ·subst e
  rcases hx x hx1 with h7|h7
  ·exact h6 x h7 x hy rfl
  ·have:=lt x (by simp[hy]);omega
 ·subst e
  rcases q_.1 hy with hy|hy
  ·rcases hx x hy with h7|h7
   ·exact h3 x hx1 x (by simp[h7]) rfl
   ·have:=lt x (by simp[hx1]);omega
  ·exact h3 x hx1 x (by simp[hy]) rfl
theorem DK.lk1 {n:Nat} {M:Nm} (h:DK w X S) (hn:ax1 w' X.nb n M) (c:Chg [X.nb] w w'):DK w' X { S with names:=M }:=by
 have a:=h.apart;exact⟨h.box.chg c (by simpa using a.d_nb),yw2 hn,ay1 h.lasted c (by simpa using a.nb_lb.symm),jv h.files c (fun g e=>by simpa using (a.fv g e).2.1),fun i hi h2=>(h.file i hi h2).chg c (fun g e=>by simpa using (a.ps _ (v_ h2) g e).2.1),
  jv h.turns c (fun g e=>by simpa using (a.tv g e).2.1),h.nodup⟩
theorem DK.jw4 {tv:Value} {ts:List Tn} (h:DK w X S) (hr:w'.ownsRow 0 118 4 tv ts.length (ts.flatMap zk)) (c:Chg ([X.d] ++X.tv.ownBlock.toList) w w') (hv:∀g,tv.ownBlock=some g→X.tv.ownBlock=some g∨w.heap.size≤g)
  (hb:BoxO w' 99 X.d (({ X with tv:=tv }:Dw).cells { S with turns:=ts })):DK w' { X with tv:=tv } { S with turns:=ts }:=by
 have a:=h.apart;have nt:∀g,g≠X.d→X.tv.ownBlock≠some g→g∉[X.d] ++X.tv.ownBlock.toList:=fun g h1 h2 h3=>by
  rcases q_.1 h3 with h3|h3
  ·exact h1 (by simpa using h3)
  ·exact h2 (by simpa using h3)
 refine⟨hb,ay1 h.names c (nt _ a.d_nb.symm (fun e=>(a.tv _ e).2.1 rfl)),ay1 h.lasted c (nt _ a.d_lb.symm (fun e=>(a.tv _ e).2.2.1 rfl)),jv h.files c (fun g e=>nt g (a.fv g e).1 (a.fv g e).2.2.2),
  fun i hi h2=>(h.file i hi h2).chg c (fun g e=>nt g (a.ps _ (v_ h2) g e).1 (a.ps _ (v_ h2) g e).2.2.2.2),hr,?_⟩
 have hl:=h.lt;have hnd:=h.nodup;unfold Dw.foot at hl hnd ⊢;simp only[←D_]at hl hnd ⊢;simp only[D_ ([X.d] ++[X.nb] ++[X.lb] ++X.fv.ownBlock.toList)]at hl hnd ⊢;exact rz1 hnd hl (by cases tv.ownBlock<;>simp) (fun x hx=>by simpa using hv x (by simpa using hx))
theorem DK.bw2 {i:Nat} {v:Value} {f:List UInt8×Nat} (h:DK w X S) (hi:i < X.ps.length) (hf:tw1 w' ((X.ps[i]).1,v) f) (c:Chg (gq X.ps[i]) w w') (hv:∀g,v.ownBlock=some g→(X.ps[i]).2.ownBlock=some g∨w.heap.size≤g):
  DK w' { X with ps:=X.ps.set i ((X.ps[i]).1,v) } { S with files:=S.files.set i f }:=by
 have a:=h.apart;have hp:=a.ps _ (v_ hi);have nt:∀g,(g=X.d∨g=X.nb∨g=X.lb∨X.fv.ownBlock=some g∨X.tv.ownBlock=some g)→g∉gq X.ps[i]:=fun g h1 h2=>by
  obtain⟨b1,b2,b3,b4,b5⟩:=hp g h2
  rcases h1 with h1|h1|h1|h1|h1
  ·exact b1 h1
  ·exact b2 h1
  ·exact b3 h1
  ·exact b4 h1
  ·exact b5 h1
 refine⟨h.box.chg c (nt _ (.inl rfl)),ay1 h.names c (nt _ (.inr (.inl rfl))),ay1 h.lasted c (nt _ (.inr (.inr (.inl rfl)))),?_,fun j hj h2=>?_,jv h.turns c (fun g e=>nt g (.inr (.inr (.inr (.inr e))))),?_⟩
 ·have h1:=jv h.files c (fun g e=>nt g (.inr (.inr (.inr (.inl e)))))
  have e:(X.ps.set i ((X.ps[i]).1,v)).map ptrV=X.ps.map ptrV:=by
   rw[List.map_set];refine List.ext_getElem (by simp) fun k h3 h4=>?_;rw[bz_];split
   ·subst_vars;simp[ptrV]
   ·rfl
  simpa [e] using h1
 ·simp only[au_]at hj h2
  simp only[bz_];split
  ·subst_vars;exact hf
  ·rename_i hne
   exact(h.file j hj h2).chg c (fun g hg hg'=>a.each i j hi h2 hne g hg' hg)
 ·have hl:=h.lt
  have hnd:=h.nodup;have e1:X.ps.flatMap gq=(X.ps.take i).flatMap gq++(gq X.ps[i] ++(X.ps.drop (i+1)).flatMap gq):=by
   conv=>lhs;rw[←aa_ i X.ps,a4_,bx_ hi,M_]
  have e2:(X.ps.set i ((X.ps[i]).1,v)).flatMap gq=(X.ps.take i).flatMap gq++(gq ((X.ps[i]).1,v)++(X.ps.drop (i+1)).flatMap gq):=by
   rw[aJ_,if_pos hi,a4_,M_]
  unfold Dw.foot at hl hnd ⊢;simp only[e2];rw[e1]at hl hnd;simp only[←D_]at hl hnd ⊢;simp only[D_ ([X.d] ++[X.nb] ++[X.lb] ++X.fv.ownBlock.toList++X.tv.ownBlock.toList++(X.ps.take i).flatMap gq)]at hl hnd ⊢;refine rz1 hnd hl ?_ (fun x hx=>?_)
  ·unfold gq
   simp only
   cases hvb:v.ownBlock with
   |none=>simp
   |some g=>
    simp only[Option.toList_some,a3_,c_,ar_,not_false_eq_true,List.nodup_nil,and_true];intro e
    rcases hv g hvb with h1|h1
    ·exact a.self _ (v_ hi) (by rw[h1,e])
    ·have:=(h.file i (by have:=h.flen;omega) hi).box.lt
     omega
  ·simp only[gq,g_,a0_]at hx ⊢
   rcases hx with rfl|hx
   ·exact .inl (.inl rfl)
   ·rcases hv x hx with h1|h1
    ·exact .inl (.inr h1)
    ·exact .inr h1
theorem DK.ak5 {fv:Value} {b:Nat} (h:DK w X S) (hr:w'.ownsRow 0 114 1 fv (S.files.length+1) ((X.ps++[(b,Value.slice none 0 0)]).map ptrV)) (hb0:w.heap.size≤b) (hbv:fv.ownBlock≠some b)
  (hf:BoxO w' 116 b [.slice none 0 0,.int .i64 0]) (c:Chg ([X.d] ++X.fv.ownBlock.toList) w w') (hv:∀g,fv.ownBlock=some g→X.fv.ownBlock=some g∨w.heap.size≤g)
  (hb:BoxO w' 99 X.d (({ X with fv:=fv,ps:=X.ps++[(b,Value.slice none 0 0)] }:Dw).cells { S with files:=S.files++[([],0)] })):DK w' { X with fv:=fv,ps:=X.ps++[(b,Value.slice none 0 0)] } { S with files:=S.files++[([],0)] }:=by
 have a:=h.apart;have nt:∀g,g≠X.d→X.fv.ownBlock≠some g→g∉[X.d] ++X.fv.ownBlock.toList:=fun g h1 h2 h3=>by
  rcases q_.1 h3 with h3|h3
  ·exact h1 (by simpa using h3)
  ·exact h2 (by simpa using h3)
 have hfl:=h.flen;refine⟨hb,ay1 h.names c (nt _ a.d_nb.symm (fun e=>(a.fv _ e).2.1 rfl)),ay1 h.lasted c (nt _ a.d_lb.symm (fun e=>(a.fv _ e).2.2.1 rfl)),by simpa using hr,fun j hj h2=>?_,
  jv h.turns c (fun g e=>nt g (a.tv g e).1 (a.tv g e).2.2.2),?_⟩
 ·simp only[e_,ah_]at hj h2
  rcases T_ j X.ps.length with h3|h3
  ·simp only[aB_ h3,aB_ (show j < S.files.length by omega)]
   exact(h.file j (by omega) h3).chg c (fun g e=>nt g (a.ps _ (v_ h3) g e).1 (a.ps _ (v_ h3) g e).2.2.2.1)
  ·have e1:j=X.ps.length:=by omega
   subst e1;have e2:(X.ps++[(b,Value.slice none 0 0)])[X.ps.length]'(by simp)=(b,Value.slice none 0 0):=by simp
   have e3:(S.files++[(([]:List UInt8),0)])[X.ps.length]'(by simp[hfl])=([],0):=by simp[hfl]
   rw[e2,e3];exact⟨hf,E_ _ _ _ _⟩
 ·have hl:=h.lt
  have hnd:=h.nodup;have hnew:(([X.d] ++([X.nb] ++([X.lb] ++(fv.ownBlock.toList++(X.tv.ownBlock.toList++X.ps.flatMap gq)))))).Nodup:=by
   unfold Dw.foot at hl hnd;simp only[←D_]at hl hnd ⊢;simp only[D_ ([X.d] ++[X.nb] ++[X.lb])]at hl hnd ⊢;simp only[D_ X.fv.ownBlock.toList,D_ fv.ownBlock.toList]at hl hnd ⊢;exact rz1 hnd hl (by cases fv.ownBlock<;>simp) (fun x hx=>by simpa using hv x (by simpa using hx))
  unfold Dw.foot;simp only[a4_,M_,List.flatMap_nil,aU_];have e:gq (b,Value.slice none 0 0)=[b]:=by simp[gq,Value.ownBlock]
  rw[e];simp only[←D_]at hnew ⊢;refine aA_.2 ⟨hnew,by simp,fun x hx y hy e0=>?_⟩;simp only[c_]at hy;subst hy;subst e0;have hll:∀g∈X.foot,g≠x:=fun g hg=>by have:=hl g hg;omega
  simp only[q_,c_,a0_]at hx
  rcases hx with ((((hx|hx)|hx)|hx)|hx)|hx
  ·exact hll _ (aj.2 (.inl rfl)) hx.symm
  ·exact hll _ (aj.2 (.inr (.inl rfl))) hx.symm
  ·exact hll _ (aj.2 (.inr (.inr (.inl rfl)))) hx.symm
  ·exact hbv hx
  ·exact hll _ (aj.2 (.inr (.inr (.inr (.inr (.inl hx)))))) rfl
  ·obtain⟨p,hp,hg⟩:=O_.1 hx
   exact hll _ (aj.2 (.inr (.inr (.inr (.inr (.inr ⟨p,hp,hg⟩)))))) rfl
end
section
open Go Go.RowKit Go.Maps
theorem xx2 (g t:Nat):(⟨g,0,none⟩:Addr).add t=⟨g,t,none⟩:=by
 unfold Addr.add;split
 ·subst_vars;rfl
 ·simp
theorem vv1 {a b:Bool} (h:a=b):Ending.returned (.bool a)=.returned (.bool b):=by rw[h]
theorem tv4 {s:ByteArray} {k:Nat} (h:k < s.size):(s.data.toList.take (k+1)).all Sd.okCh=((s.data.toList.take k).all Sd.okCh&&Sd.okCh s[k]):=by
 rw[o_ (by simpa using h),bW_];simp;rfl
theorem gj5 {s:ByteArray} {k:Nat} (h:k < s.size) (hn:Sd.okCh s[k]=false):s.data.toList.all Sd.okCh=false:=by
 rw[List.all_eq_false];exact⟨s[k],by
  have:s[k]=s.data.toList[k]'(by simpa using h):=rfl;rw[this];exact v_ _,by simp[hn]⟩
theorem zw1 (s:ByteArray) (hs:s.size≤maxLen) (w:World):Calls Tryz.prog 73 #[.string s] w fun e w'=>e=.returned (.bool (Sd.named s.data.toList))∧w=w':=by
 unfold maxLen at hs
 by_cases h1:s.size < 1
 ·have he:Sd.named s.data.toList=false:=by
   have:s.data.toList.length < 1:=by simpa using h1
   simp[Sd.named];omega
  rw[he];clear he;go_enter Tryz.func73,Tryz.ntmps73;go_wp2;go_ret;exact⟨rfl,rfl⟩
 by_cases h2:16 < s.size
 ·have he:Sd.named s.data.toList=false:=by
   have:16 < s.data.toList.length:=by simpa using h2
   simp[Sd.named];omega
  rw[he];clear he;go_enter Tryz.func73,Tryz.ntmps73;go_wp2;go_ret;exact⟨rfl,rfl⟩
 have he:Sd.named s.data.toList=s.data.toList.all Sd.okCh:=by
  have:s.data.toList.length=s.size:=by simp
  simp only[Sd.named,this];rw[decide_eq_true (by omega),decide_eq_true (by omega)];rfl
 rw[he];clear he;obtain⟨R,hR⟩:=n_ (s.data.toList.all Sd.okCh);rw[←hR];have HR:=H_ hR;clear hR;go_enter Tryz.func73,Tryz.ntmps73;go_wp2
 go_loop [15] (fun i=>∃k:Nat,k≤s.size∧i=.int .i64 (k:Int)∧(s.data.toList.take k).all Sd.okCh=true) (fun i=>s.size - (intOf i).toNat)
 case atStart=>exact⟨0,t_ _,rfl,rfl⟩
 case round=>
  obtain⟨k,hk,rfl,hal⟩:=hrel;have HA:=H_ hal;clear hal
  by_cases hlt:k < s.size
  ·cases hch:Sd.okCh s[k] with
   |true=>
    have HT:Hid ((s.data.toList.take (k+1)).all Sd.okCh=true):=H_ (by rw[tv4 hlt,HA.out,hch];rfl);simp only[Sd.okCh,bG_,K_,decide_eq_true_eq]at hch
    rcases hch with (⟨c1,c2⟩|⟨c1,c2⟩)|c1
    ·have e1:((s[k].toNat:Int) < 97)=False:=by simp;omega
     have e2:((122:Int) < (s[k].toNat:Int))=False:=by simp;omega
     clear c1 c2;go_wp2
     go_round
     case rel=>exact⟨k+1,by omega,by go_num,HT.out⟩
     case measure=>simp[intOf];omega
    ·have e1:((s[k].toNat:Int) < 97):=by omega
     have e2:((s[k].toNat:Int) < 48)=False:=by simp;omega
     have e3:((57:Int) < (s[k].toNat:Int))=False:=by simp;omega
     clear c1 c2;go_wp2
     go_round
     case rel=>exact⟨k+1,by omega,by go_num,HT.out⟩
     case measure=>simp[intOf];omega
    ·have e1:((s[k].toNat:Int) < 97):=by omega
     have e2:((s[k].toNat:Int) < 48):=by omega
     have e3:((s[k].toNat:Int)==46)=true:=by simp[c1]
     have e4:((s[k].toNat:Int) !=46)=false:=by simp[bne,e3]
     clear c1;go_wp2
     go_round
     case rel=>exact⟨k+1,by omega,by go_num,HT.out⟩
     case measure=>simp[intOf];omega
   |false=>
    have HF:=H_ (gj5 hlt hch);simp only[Sd.okCh,bR_,Bool.and_eq_false_iff,decide_eq_false_iff_not]at hch;obtain⟨⟨c1,c2⟩,c3⟩:=hch;have e3:((s[k].toNat:Int)==46)=false:=by simp;omega
    have e4:((s[k].toNat:Int) !=46)=true:=by simp[bne,e3]
    by_cases d1:s[k].toNat < 48
    ·have e1:((s[k].toNat:Int) < 97):=by omega
     have e2:((s[k].toNat:Int) < 48):=by omega
     clear c1 c2 c3 d1;go_wp2;go_ret;exact⟨vv1 (HR.out.trans HF.out).symm,rfl⟩
    by_cases d2:s[k].toNat < 97
    ·have e1:((s[k].toNat:Int) < 97):=by omega
     have e2:((s[k].toNat:Int) < 48)=False:=by simp;omega
     have e5:((57:Int) < (s[k].toNat:Int)):=by omega
     clear c1 c2 c3 d1 d2;go_wp2;go_ret;exact⟨vv1 (HR.out.trans HF.out).symm,rfl⟩
    have e1:((s[k].toNat:Int) < 97)=False:=by simp;omega
    have e2:((122:Int) < (s[k].toNat:Int)):=by omega
    have e6:((s[k].toNat:Int) < 48)=False:=by simp;omega
    have e5:((57:Int) < (s[k].toNat:Int)):=by omega
    clear c1 c2 c3 d1 d2;go_wp2;go_ret;exact⟨vv1 (HR.out.trans HF.out).symm,rfl⟩
  ·have ha:s.data.toList.all Sd.okCh=true:=by
    have:=HA.out
    rwa [i_ (by simp;omega)]at this
   have HF:=H_ ha;clear ha;go_wp2;go_ret;exact⟨vv1 (HR.out.trans HF.out).symm,rfl⟩
theorem pz2 (X:Nat) (b:Bool) (w:World) (h:w.cell? ⟨X,6,none⟩=some (.bool b)):Calls Tryz.prog 40 #[.pointer (some ⟨X,0,none⟩)] w fun e w'=>e=.returned (.bool b)∧w=w':=by
 go_enter Tryz.func40,Tryz.ntmps40;go_wp2;go_ret;exact⟨rfl,rfl⟩
theorem nz2 (w:World):(zeroValue 3).run Tryz.prog w=.ok (.int .i64 0) w:=by kernel_rfl
theorem vq1:Keyed Tryz.prog 9:=Maps.string_keyed Tryz.underlying9
theorem tk4 {s:ByteArray} (hs:s.size≤maxLen):keyOf Tryz.prog 9 (.string s)=some (.string s.data.toList):=Go.WideMaps.keyOf_string_mk Tryz.underlying9 hs
theorem DK.fileAt {w:World} {X:Dw} {S:Sd} (h:DK w X S) {i:Nat} (hi:i < S.files.length):∃g cap,X.fv=.slice (some ⟨g,0,none⟩) S.files.length cap∧w.cell? ⟨g,i,none⟩=some (ptrV (X.ps.getD i (0,Go.undef)))∧S.files.length≤9223372036854775807:=by
 have hip:i < X.ps.length:=by rw[h.flen];exact hi
 have hfil:=h.files;obtain⟨g,cap,hg1⟩:∃g cap,X.fv=.slice (some ⟨g,0,none⟩) S.files.length cap:=by
  rcases hfil.2 with ⟨_,h0⟩|⟨g,cap,cur,hv,_⟩
  ·omega
  ·exact⟨g,cap,hv⟩
 have hbig:S.files.length≤9223372036854775807:=by
  obtain⟨A,c,e,h1,h2,_⟩:=dw hfil;unfold maxLen at h2;omega
 rw[hg1]at hfil;have hcell:=hfil.cells (g:=g) rfl i (ptrV (X.ps.getD i (0,Go.undef))) (by simp[C_,hip]);rw[xx2]at hcell;exact⟨g,cap,hg1,hcell,hbig⟩
theorem find_any (X:Dw) (S:Sd) (s:ByteArray) (hs:s.size≤maxLen) (w:World) (h:DK w X S) (hl:Sd.mj1 S.names S.files.length):
  Calls Tryz.prog 74 #[.pointer (some ⟨X.d,0,none⟩),.string s] w fun e w'=>e=.returned (match S.names.get s.data.toList with
   |none=>.pointer none
   |some i=>ptrV (X.ps.getD i (0,Go.undef)))∧w=w':=by
 have hbox:=h.box;have d2:=hbox.cell 2;have d1:=hbox.cell 1;simp only[Dw.cells,gE0,gE1]at d1 d2;have hkey:=tk4 hs;have hn:=h.names;have hhas:=Nm.lk2 S.names s.data.toList
 cases hg:S.names.get s.data.toList with
 |some i=>
  have hi:=hl _ (Nm.get_mem hg);simp only at hi;obtain⟨g,cap,hfv,hcell,hbig⟩:=h.fileAt hi;have hi':(i:Int) < (S.files.length:Int):=by omega
  rw[hfv]at d1;rw[hg]at hhas;have HH:=H_ hhas;have HA:=H_ (fun z=>Nm.yj3 S.names s.data.toList z hg);clear hhas hfv hg;go_enter Tryz.func74,Tryz.ntmps74;go_wp2_with (at_lookup;refine wpList_lookup_own_ok_int _ rfl _ _ 90 rfl 9 3 .i64 vq1 Tryz.underlying90 Tryz.underlying3 (nz2 _) X.nb _ _ rfl hn _ _ rfl hkey ?_;intro c hat hwc;rw[HA.out]at hat;injection hat with hat;injection hat with _ hat;subst hat;rw[HH.out]);go_wp2;go_ret;exact⟨rfl,rfl⟩
 |none=>
  rw[hg]at hhas;have HH:=H_ hhas;clear hhas hg;go_enter Tryz.func74,Tryz.ntmps74;go_wp2_with (at_lookup;refine wpList_lookup_own_ok_int _ rfl _ _ 90 rfl 9 3 .i64 vq1 Tryz.underlying90 Tryz.underlying3 (nz2 _) X.nb _ _ rfl hn _ _ rfl hkey ?_;intro c hat hwc;rw[HH.out]);go_wp2;go_ret;exact⟨rfl,rfl⟩
end
section
open Go Go.RowKit Go.Maps
def strs (ss:List ByteArray):List Value:=ss.map Value.string
theorem strs_get (ss:List ByteArray) (k:Nat):(strs ss)[k]?=(ss[k]?).map Value.string:=by simp[strs]
theorem Row.st {B n:Nat} {w:World} {A:Option Addr} {ss:List ByteArray} (h:Row B w A n 1 (strs ss)) {k:Nat} (hk:k < n):∃a,∃hl:k < ss.length,A=some a∧a.block < B∧w.cell? (a.add k)=some (.string ss[k]):=by
 obtain⟨a,v,e,hb,hv,hc⟩:=h.at1 hk;have hl:k < ss.length:=by
  have:=h.len;simp[strs]at this;omega
 rw[strs_get,j_ hl]at hv;injection hv with hv;subst hv;exact⟨a,hl,e,hb,hc⟩
theorem bv4 (g:Nat) (j:Nat) (c:Int) (w:World) (h:w.cell? ⟨g,j,none⟩=some (.int .i64 c)) (hf:w.frozen? ⟨g,j,none⟩=false):
  Calls Tryz.prog 147 #[.pointer (some ⟨g,j,none⟩),.int .i64 1] w fun e w'=>∃v,e=.returned v∧w'=w.setCell ⟨g,j,none⟩ (.int .i64 (wrap64 (c+1))):=by
 have hadd:=run_call_add (P:=Tryz.prog) Tryz.func223 (by kernel_rfl) (by kernel_rfl) (by kernel_rfl) .i64 (by kernel_rfl) (y:=1) (s:=wrap64 (c+1)) h hf (by simp[go_sem,IntKind.wrap_i64,wrap64]);go_enter Tryz.func147,Tryz.ntmps147;go_wp2;go_ret;exact⟨_,rfl,rfl⟩
def texts (ss:List ByteArray):List (List UInt8):=ss.map fun s=>s.data.toList
theorem nj3 {ss:List ByteArray} {k:Nat} (h:k < ss.length):(texts (ss.take (k+1))).all Sd.named=((texts (ss.take k)).all Sd.named&&Sd.named (ss[k]).data.toList):=by
 unfold texts;rw[o_ h,aD_,bW_];simp
theorem jx4 {ss:List ByteArray} {k:Nat} (h:k < ss.length) (hn:Sd.named (ss[k]).data.toList=false):(texts ss).all Sd.named=false:=by
 rw[List.all_eq_false];exact⟨_,bc_.2 ⟨ss[k],v_ h,rfl⟩,by simp[hn]⟩
theorem nw2 (X:Dw) (S:Sd) (A:Option Addr) (n c:Nat) (ss:List ByteArray) (hn:n≤1000) (hss:∀s∈ss,s.size≤maxLen) (hst:S.stop≤9223372036854775807) (hfa:S.fail≤9223372036854775807) (w:World) (h:DK w X S) (hr:Row w.heap.size w A n 1 (strs ss)):
  Calls Tryz.prog 75 #[.pointer (some ⟨X.d,0,none⟩),.slice A n c] w fun e w'=>e=.returned (.int .i64 ((S.call (texts ss)).2:Int))∧DK w' X (S.call (texts ss)).1∧Chg [X.d] w w':=by
 have hbox:=h.box;have HSS:=H_ hss;clear hss;have hsl:ss.length=n:=by simpa [strs] using hr.len
 obtain⟨S',hS'⟩:=n_ ((S.call (texts ss)).1);obtain⟨er,her⟩:=n_ ((S.call (texts ss)).2);rw[←hS',←her];have HS:=H_ hS';have HE:=H_ her;clear hS' her;have HSL:=H_ hsl;clear hsl;go_enter Tryz.func75,Tryz.ntmps75;go_wp2
 go_loop [9] (fun i=>∃k:Nat,k≤n∧i=.int .i64 (k:Int)∧Hid ((texts (ss.take k)).all Sd.named=true)) (fun i=>n - (intOf i).toNat)
 case atStart=>exact⟨0,t_ _,rfl,rfl⟩
 case round=>
  obtain⟨k,hk,rfl,HA⟩:=hrel
  by_cases hlt:k < n
  ·obtain⟨a,hl,rfl,_,hcl⟩:=hr.st hlt
   have hnm:=HSS.out ss[k] (v_ hl);have HT:=nj3 hl;have HF:=@jx4 ss k hl;generalize ss[k]=s at *;go_wp2_with fail
   cases hch:Sd.named s.data.toList with
   |true=>
    have HT2:Hid ((texts (ss.take (k+1))).all Sd.named=true):=by
     have h1:=HA.out;show _=true
     rw[HT,h1,hch];rfl
    clear HT HF;refine(zw1 s hnm w).mono ?_;rintro e w1 ⟨rfl,rfl⟩;rw[hch];clear hch;go_wp2
    go_round
    case rel=>exact⟨k+1,by omega,by go_num,HT2⟩
    case measure=>simp[intOf];omega
   |false=>
    have hbad:=HF hch;have e1:er=10:=by rw[show er=_ from HE.out];simp[Sd.call,hbad]
    have e2:S'=S:=by rw[show S'=_ from HS.out];simp[Sd.call,hbad]
    clear HT HF hbad;subst e1 e2;refine(zw1 s hnm w).mono ?_;rintro e w1 ⟨rfl,rfl⟩;rw[hch];clear hch;go_wp2;go_ret;exact⟨rfl,h,Chg.refl _ _⟩
  ·have hall:(texts ss).all Sd.named=true:=by
    have h1:=HA.out;have h2:=HSL.out
    rwa [i_ (by omega)]at h1
   go_wp2_with fail;refine(bv4 X.d 5 S.calls w (by rw[hbox.cell 5];rfl) (hbox.free 5)).mono ?_;rintro e w1 ⟨v,rfl,rfl⟩;have hbox1:=hbox.store 5 (.int .i64 (wrap64 (S.calls+1)));have hchg:=uw w ⟨X.d,5,none⟩ (.int .i64 (wrap64 (S.calls+1)));generalize hV:w.setCell ⟨X.d,5,none⟩ (.int .i64 (wrap64 (S.calls+1)))=V at *;clear hV hbox;have d7:=hbox1.cell 7;have d8:=hbox1.cell 8;have d6:=hbox1.cell 6;have f6:=hbox1.free 6;have f7:=hbox1.free 7;have f8:=hbox1.free 8;simp only[Dw.cells,gE0,gE1,ac_,ak_]at d6 d7 d8;have hdead:=pz2 X.d S.dead V (by rw[hbox1.cell 6];rfl);have key:=fun(S2:Sd) (w2:World) (hc:Chg [X.d] V w2) (hb:BoxO w2 99 X.d (X.cells S2)) (e1:S2.names=S.names) (e2:S2.lasted=S.lasted) (e3:S2.files=S.files) (e4:S2.turns=S.turns)=>(⟨h.jk5 (hchg.trans hc (fun g hg=>.inl hg)) hb e1 e2 e3 e4,hchg.trans hc (fun g hg=>.inl hg)⟩:DK w2 X S2∧Chg [X.d] w w2);have hX:∀b:Bool,(texts ss).all Sd.named=false→b=false:=fun _ h=>by rw[hall]at h;cases h
   clear hX
   cases hde:S.dead with
   |true=>
    rw[hde]at hdead;have e1:er=50:=by rw[show er=_ from HE.out];simp[Sd.call,hall,hde]
    have e2:S'={ S with calls:=wrap64 (S.calls+1) }:=by rw[show S'=_ from HS.out];simp[Sd.call,hall,hde]
    have kk:=key S' V (Chg.refl _ _) (by rw[e2];exact hbox1) (by rw[e2]) (by rw[e2]) (by rw[e2]) (by rw[e2]);have HK:=H_ kk;clear e2 kk key hall hde h hchg;subst e1;go_wp2_with fail;refine hdead.mono ?_;rintro e w1 ⟨rfl,rfl⟩;go_wp2;go_ret;exact⟨rfl,HK.out⟩
   |false=>
    rw[hde]at hdead;obtain⟨q,fs,nm,la,tu,ca,de,st,fa⟩:=S;simp only at *;subst hde;have hcall:=fun(a:Sd×Nat) (hh:Sd.call ⟨q,fs,nm,la,tu,ca,false,st,fa⟩ (texts ss)=a)=>(⟨HS.out.trans (congrArg Prod.fst hh),HE.out.trans (congrArg Prod.snd hh)⟩:S'=a.1∧er=a.2)
    rcases T_ 0 st with s0|s0
    ·rcases T_ 1 st with s1|s1
     ·have t1:((st:Int) - 1==0)=false:=by simp;omega
      rcases T_ 0 fa with a0|a0
      ·rcases T_ 1 fa with a1|a1
       ·have t2:((fa:Int) - 1==0)=false:=by simp;omega
        obtain⟨g1,g2⟩:=hcall (⟨q,fs,nm,la,tu,wrap64 (ca+1),false,st - 1,fa - 1⟩,0) (by simp[Sd.call,hall,show ¬(st - 1=0) by omega,s0,show ¬(fa - 1=0) by omega,a0]);have e1:((st - 1:Nat):Int)=(st:Int) - 1:=by omega
        have e2:((fa - 1:Nat):Int)=(fa:Int) - 1:=by omega
        have kk:=key S' (((V.setCell ⟨X.d,7,none⟩ (.int .i64 ((st:Int) - 1))).setCell ⟨X.d,6,none⟩ (.bool false)).setCell ⟨X.d,8,none⟩ (.int .i64 ((fa:Int) - 1))) ((((Chg.refl _ _).setCell _ (.inl (by simp))).setCell _ (.inl (by simp))).setCell _ (.inl (by simp))) (by
         rw[g1,Dw.cells];simp only[e1,e2];exact(((hbox1.store 7 (.int .i64 ((st:Int) - 1))).store 6 (.bool false)).store 8 (.int .i64 ((fa:Int) - 1)))) (by rw[g1]) (by rw[g1]) (by rw[g1]) (by rw[g1])
        have HK:=H_ kk;simp only at g2;clear g1 kk key hall h hchg hcall e1 e2;subst g2;go_wp2_with fail;refine hdead.mono ?_;rintro e w1 ⟨rfl,rfl⟩;go_wp2;go_ret;exact⟨rfl,HK.out⟩
       ·obtain rfl:fa=1:=by omega
        obtain⟨g1,g2⟩:=hcall (⟨q,fs,nm,la,tu,wrap64 (ca+1),false,st - 1,0⟩,15) (by simp[Sd.call,hall,show ¬(st - 1=0) by omega,s0]);have e1:((st - 1:Nat):Int)=(st:Int) - 1:=by omega
        have kk:=key S' (((V.setCell ⟨X.d,7,none⟩ (.int .i64 ((st:Int) - 1))).setCell ⟨X.d,6,none⟩ (.bool false)).setCell ⟨X.d,8,none⟩ (.int .i64 0)) ((((Chg.refl _ _).setCell _ (.inl (by simp))).setCell _ (.inl (by simp))).setCell _ (.inl (by simp))) (by
         rw[g1,Dw.cells];simp only[e1];exact(((hbox1.store 7 (.int .i64 ((st:Int) - 1))).store 6 (.bool false)).store 8 (.int .i64 0))) (by rw[g1]) (by rw[g1]) (by rw[g1]) (by rw[g1])
        have HK:=H_ kk;simp only at g2;clear g1 kk key hall h hchg hcall e1;subst g2;go_wp2_with fail;refine hdead.mono ?_;rintro e w1 ⟨rfl,rfl⟩;go_wp2;go_ret;exact⟨rfl,HK.out⟩
      ·obtain rfl:fa=0:=by omega
       obtain⟨g1,g2⟩:=hcall (⟨q,fs,nm,la,tu,wrap64 (ca+1),false,st - 1,0⟩,0) (by simp[Sd.call,hall,show ¬(st - 1=0) by omega,s0]);have e1:((st - 1:Nat):Int)=(st:Int) - 1:=by omega
       have kk:=key S' ((V.setCell ⟨X.d,7,none⟩ (.int .i64 ((st:Int) - 1))).setCell ⟨X.d,6,none⟩ (.bool false)) (((Chg.refl _ _).setCell _ (.inl (by simp))).setCell _ (.inl (by simp))) (by
        rw[g1,Dw.cells];simp only[e1];exact((hbox1.store 7 (.int .i64 ((st:Int) - 1))).store 6 (.bool false))) (by rw[g1]) (by rw[g1]) (by rw[g1]) (by rw[g1])
       have HK:=H_ kk;simp only at g2;clear g1 kk key hall h hchg hcall e1;subst g2;go_wp2_with fail;refine hdead.mono ?_;rintro e w1 ⟨rfl,rfl⟩;go_wp2;go_ret;exact⟨rfl,HK.out⟩
     ·obtain rfl:st=1:=by omega
      rcases T_ 0 fa with a0|a0
      ·rcases T_ 1 fa with a1|a1
       ·have t2:((fa:Int) - 1==0)=false:=by simp;omega
        obtain⟨g1,g2⟩:=hcall (⟨q,fs,nm,la,tu,wrap64 (ca+1),true,0,fa - 1⟩,0) (by simp[Sd.call,hall,show ¬(fa - 1=0) by omega,a0]);have e2:((fa - 1:Nat):Int)=(fa:Int) - 1:=by omega
        have kk:=key S' (((V.setCell ⟨X.d,7,none⟩ (.int .i64 0)).setCell ⟨X.d,6,none⟩ (.bool true)).setCell ⟨X.d,8,none⟩ (.int .i64 ((fa:Int) - 1))) ((((Chg.refl _ _).setCell _ (.inl (by simp))).setCell _ (.inl (by simp))).setCell _ (.inl (by simp))) (by
         rw[g1,Dw.cells];simp only[e2];exact(((hbox1.store 7 (.int .i64 0)).store 6 (.bool true)).store 8 (.int .i64 ((fa:Int) - 1)))) (by rw[g1]) (by rw[g1]) (by rw[g1]) (by rw[g1])
        have HK:=H_ kk;simp only at g2;clear g1 kk key hall h hchg hcall e2;subst g2;go_wp2_with fail;refine hdead.mono ?_;rintro e w1 ⟨rfl,rfl⟩;go_wp2;go_ret;exact⟨rfl,HK.out⟩
       ·obtain rfl:fa=1:=by omega
        obtain⟨g1,g2⟩:=hcall (⟨q,fs,nm,la,tu,wrap64 (ca+1),true,0,0⟩,15) (by simp[Sd.call,hall]);have kk:=key S' (((V.setCell ⟨X.d,7,none⟩ (.int .i64 0)).setCell ⟨X.d,6,none⟩ (.bool true)).setCell ⟨X.d,8,none⟩ (.int .i64 0)) ((((Chg.refl _ _).setCell _ (.inl (by simp))).setCell _ (.inl (by simp))).setCell _ (.inl (by simp))) (by
         rw[g1,Dw.cells];exact(((hbox1.store 7 (.int .i64 0)).store 6 (.bool true)).store 8 (.int .i64 0))) (by rw[g1]) (by rw[g1]) (by rw[g1]) (by rw[g1])
        have HK:=H_ kk;simp only at g2;clear g1 kk key hall h hchg hcall;subst g2;go_wp2_with fail;refine hdead.mono ?_;rintro e w1 ⟨rfl,rfl⟩;go_wp2;go_ret;exact⟨rfl,HK.out⟩
      ·obtain rfl:fa=0:=by omega
       obtain⟨g1,g2⟩:=hcall (⟨q,fs,nm,la,tu,wrap64 (ca+1),true,0,0⟩,0) (by simp[Sd.call,hall]);have kk:=key S' ((V.setCell ⟨X.d,7,none⟩ (.int .i64 0)).setCell ⟨X.d,6,none⟩ (.bool true)) (((Chg.refl _ _).setCell _ (.inl (by simp))).setCell _ (.inl (by simp))) (by
        rw[g1,Dw.cells];exact((hbox1.store 7 (.int .i64 0)).store 6 (.bool true))) (by rw[g1]) (by rw[g1]) (by rw[g1]) (by rw[g1])
       have HK:=H_ kk;simp only at g2;clear g1 kk key hall h hchg hcall;subst g2;go_wp2_with fail;refine hdead.mono ?_;rintro e w1 ⟨rfl,rfl⟩;go_wp2;go_ret;exact⟨rfl,HK.out⟩
    ·obtain rfl:st=0:=by omega
     rcases T_ 0 fa with a0|a0
     ·rcases T_ 1 fa with a1|a1
      ·have t2:((fa:Int) - 1==0)=false:=by simp;omega
       obtain⟨g1,g2⟩:=hcall (⟨q,fs,nm,la,tu,wrap64 (ca+1),false,0,fa - 1⟩,0) (by simp[Sd.call,hall,show ¬(fa - 1=0) by omega,a0]);have e2:((fa - 1:Nat):Int)=(fa:Int) - 1:=by omega
       have kk:=key S' (V.setCell ⟨X.d,8,none⟩ (.int .i64 ((fa:Int) - 1))) ((Chg.refl _ _).setCell _ (.inl (by simp))) (by
        rw[g1,Dw.cells];simp only[e2];exact(hbox1.store 8 (.int .i64 ((fa:Int) - 1)))) (by rw[g1]) (by rw[g1]) (by rw[g1]) (by rw[g1])
       have HK:=H_ kk;simp only at g2;clear g1 kk key hall h hchg hcall e2;subst g2;go_wp2_with fail;refine hdead.mono ?_;rintro e w1 ⟨rfl,rfl⟩;go_wp2;go_ret;exact⟨rfl,HK.out⟩
      ·obtain rfl:fa=1:=by omega
       obtain⟨g1,g2⟩:=hcall (⟨q,fs,nm,la,tu,wrap64 (ca+1),false,0,0⟩,15) (by simp[Sd.call,hall]);have kk:=key S' (V.setCell ⟨X.d,8,none⟩ (.int .i64 0)) ((Chg.refl _ _).setCell _ (.inl (by simp))) (by
        rw[g1,Dw.cells];exact(hbox1.store 8 (.int .i64 0))) (by rw[g1]) (by rw[g1]) (by rw[g1]) (by rw[g1])
       have HK:=H_ kk;simp only at g2;clear g1 kk key hall h hchg hcall;subst g2;go_wp2_with fail;refine hdead.mono ?_;rintro e w1 ⟨rfl,rfl⟩;go_wp2;go_ret;exact⟨rfl,HK.out⟩
     ·obtain rfl:fa=0:=by omega
      obtain⟨g1,g2⟩:=hcall (⟨q,fs,nm,la,tu,wrap64 (ca+1),false,0,0⟩,0) (by simp[Sd.call,hall]);have kk:=key S' V (Chg.refl _ _) (by
       rw[g1,Dw.cells];exact hbox1) (by rw[g1]) (by rw[g1]) (by rw[g1]) (by rw[g1])
      have HK:=H_ kk;simp only at g2;clear g1 kk key hall h hchg hcall;subst g2;go_wp2_with fail;refine hdead.mono ?_;rintro e w1 ⟨rfl,rfl⟩;go_wp2;go_ret;exact⟨rfl,HK.out⟩
end
section
open Go Go.RowKit Go.Maps
def sumL (f:DataW Unit→Nat) (left:Lit→Bool) (es:List (Lit×DataW Unit)):Nat:=((es.filter fun p=>!left p.1).map fun p=>f p.2).sum
theorem rq2 (f:DataW Unit→Nat) (left:Lit→Bool):∀(es:List (Lit×DataW Unit)),es.Pairwise (fun p q=>p.1≠q.1)→(∀p∈es,WideAt.IsKeyLit p.1)→∀p0∈es,left p0.1=true→sumL f (fun z=>left z&&!z.sameKey p0.1) es=sumL f left es+f p0.2
 |[],_,_,p0,h,_=>by cases h
 |q::r,hp,hk,p0,h,hl=>by
  obtain⟨h1,h2⟩:=Z_.1 hp
  rcases g_.1 h with rfl|h
  ·have e1:sumL f (fun z=>left z&&!z.sameKey p0.1) r=sumL f left r:=by
    unfold sumL
    congr 2
    apply List.filter_congr;intro x hx;have e:=Maps.sameKey_ne (h1 x hx).symm;simp[e]
   have e2:=WideAt.sameKey_self (hk p0 (by simp));have e3:sumL f (fun z=>left z&&!z.sameKey p0.1) (p0::r)=f p0.2+sumL f (fun z=>left z&&!z.sameKey p0.1) r:=by simp[sumL,e2]
   have e4:sumL f left (p0::r)=sumL f left r:=by simp[sumL,hl]
   omega
  ·have ih:=rq2 f left r h2 (fun p hp'=>hk p (by simp[hp'])) p0 h hl
   have e1:q.1.sameKey p0.1=false:=Maps.sameKey_ne (h1 p0 h);have e3:sumL f (fun z=>left z&&!z.sameKey p0.1) (q::r)=(if left q.1=true then 0 else f q.2)+sumL f (fun z=>left z&&!z.sameKey p0.1) r:=by
    cases hq:left q.1<;>simp[sumL,e1,hq]
   have e4:sumL f left (q::r)=(if left q.1=true then 0 else f q.2)+sumL f left r:=by
    cases hq:left q.1<;>simp[sumL,hq]
   omega
theorem xv3 (f:DataW Unit→Nat) (left:Lit→Bool):∀es:List (Lit×DataW Unit),sumL f left es≤(es.map fun p=>f p.2).sum
 |[]=>by simp[sumL]
 |q::r=>by
  have ih:=xv3 f left r;have e4:sumL f left (q::r)=(if left q.1=true then 0 else f q.2)+sumL f left r:=by
   cases hq:left q.1<;>simp[sumL,hq]
  simp only[aw_,b7_];split at e4<;>omega
theorem ny4 (f:DataW Unit→Nat) (left:Lit→Bool) (es:List (Lit×DataW Unit)) (h:∀k,left k=false):sumL f left es=(es.map fun p=>f p.2).sum:=by
 unfold sumL;rw[aS_.2 (fun p _=>by simp[h])]
theorem iw4 (f:DataW Unit→Nat) (left:Lit→Bool) (es:List (Lit×DataW Unit)) (h:∀p∈es,left p.1=true):sumL f left es=0:=by
 unfold sumL;rw[bL_.2 (fun p hp=>by simp[h p hp])];rfl
def key (s:ByteArray):Lit:=.string s.data.toList
theorem fk1 {k:Value} {kl:Lit} (h:keyOf Tryz.prog 9 k=some kl):∃s,k=.string s∧kl=key s:=by
 obtain⟨s,e1,e2,_⟩:=Go.WideMaps.string_of_keyOf Tryz.underlying9 h;exact⟨s,e1,e2⟩
def lenOf (fs:List (List UInt8×Nat)) (x:DataW Unit):Nat:=match x with
 |.lit (.int _ c)=>(fs.getD c.toNat ([],0)).1.length
 |_=>0
theorem dv5 (S:Sd):S.used=((S.names.map Nm.lit1).map fun p=>lenOf S.files p.2).sum:=by
 unfold Sd.used;rw[List.map_map];rfl
theorem nz4 (X:Dw) (S:Sd) (w:World) (h:DK w X S) (hl:Sd.mj1 S.names S.files.length) (hu:S.used≤1099511627776):
  Calls Tryz.prog 76 #[.pointer (some ⟨X.d,0,none⟩)] w fun e w'=>e=.returned (.int .i64 (S.used:Int))∧Below w.heap.size w w':=by
 have hbox:=h.box;have d2:=hbox.cell 2;simp only[Dw.cells,gE0,gE1]at d2;have hnm:=h.names;obtain⟨es,hes0,hpw,hkl⟩:=hnm.entries vq1;have hes:es=S.names.map Nm.lit1:=by
  unfold Nm.enc at hes0;injection hes0 with hes0;exact hes0.symm
 clear hes0;have hus:S.used=(es.map fun p=>lenOf S.files p.2).sum:=by rw[hes,dv5]
 have HES:=H_ hes;obtain⟨U,hU⟩:=n_ S.used;rw[←hU]at hus hu ⊢;have HUS:=H_ hus;clear hus hes hU;obtain⟨M,hM⟩:=n_ (Nm.enc S.names);have hown:w.ownsMap Tryz.prog 9 (plainElem (H:=Unit) Tryz.prog 3) X.nb S.names.length M:=by rw[hM];exact hnm
 have HM:Hid (M=.map es):=by rw[hM,HES.out];exact rfl
 have HMN:=H_ hM;clear hM hnm;go_enter Tryz.func76,Tryz.ntmps76;go_wp2_with (first
  |(at_range;refine wpList_range_own _ rfl _ 90 rfl 9 3 vq1 Tryz.underlying90 _ X.nb _ M rfl hown ?_;intro w0 hrg0 hg0 hs0)
  |go_in)
 go_frame
 have hb0:Below w.heap.size w w0:=b0_.grown hg0 l_ (fun k hk=>by cases hk)
 go_loopw [3] (fun s wr=>∃(left:Lit→Bool) (cnt:Nat),s=.int .i64 (sumL (lenOf S.files) left es:Int)∧wr.ranges Tryz.prog 9 (plainElem (H:=Unit) Tryz.prog 3) X.nb w.heap.size S.names.length M left cnt∧Below w.heap.size w wr) (fun _ wr=>wr.rangeLeft X.nb w.heap.size)
 case atStart=>
  refine⟨_,_,?_,hrg0,hb0⟩;rw[iw4 _ _ _ (fun p hp=>by
   rw[HM.out,Maps.has_eq,aO_];exact⟨p,hp,WideAt.sameKey_self (hkl p hp)⟩)]
  rfl
 case round=>
  obtain⟨left,cnt,rfl,hrg,hb⟩:=hrel;go_wp2_with (first
   |(at_next;refine wpList_next_ranges _ rfl _ rfl 9 vq1 _ Value.string (Value.int .i64) ?invK ?invV X.nb w.heap.size _ M left cnt rfl hrg ?hDone ?hMore)
   |go_in)
  case invK=>exact fun key kl hk=>by obtain⟨s,rfl,_⟩:=fk1 hk;exact⟨s,rfl⟩
  case invV=>exact fun v y hv=>by obtain⟨c,rfl,_⟩:=plainElem_int_inv Tryz.underlying3 hv;exact⟨c,rfl⟩
  case hDone=>
   intro _ hl0;rw[ny4 _ _ _ hl0,←show U=_ from HUS.out];go_wp2;go_ret;exact⟨rfl,hb⟩
  case hMore=>
   intro x c kl y yp w1 cnt1 hkey hlx hv hat hrg1 hlt hg1 hs1 hen;obtain⟨s,hxs,hkl2⟩:=fk1 hkey
   cases hxs
   have hb1:Below w.heap.size w w1:=hb.grown hg1 hb.size (fun j hj=>by cases hj;exact x_ _);have hD1:=h.below hb1;have hhas:Maps.has M kl=true:=Maps.has_true_of_atKey hat;subst hkl2;unfold key at hhas hat hlx hrg1;obtain⟨i,hgi⟩:∃i,S.names.get x.data.toList=some i:=by
    rw[show M=_ from HMN.out,Nm.lk2]at hhas;exact Option.isSome_iff_exists.1 hhas
   have hi:=hl _ (Nm.get_mem hgi);simp only at hi;have hia:=fun z=>Nm.yj3 S.names x.data.toList z hgi;have hy:y=.lit (.int .i64 (i:Int)):=by rw[←hat .nil,show M=_ from HMN.out,hia]
   obtain⟨c',hc',hy2,_⟩:=plainElem_int_inv Tryz.underlying3 hv
   cases hc'
   have hci:c=(i:Int):=by
    have h2:=congrArg Prod.fst hy2;simp only at h2;rw[h2]at hy;injection hy with hy;injection hy with _ hy
   subst hci;have hp0:Nm.lit1 (x.data.toList,i)∈es:=by
    rw[show es=_ from HES.out];exact bc_.2 ⟨_,Nm.get_mem hgi,rfl⟩
   have hstep:=rq2 (lenOf S.files) left es hpw hkl _ hp0 hlx;have hle:=xv3 (lenOf S.files) (fun z=>left z&&!z.sameKey (.string x.data.toList)) es;simp only[Nm.lit1]at hstep;have hip:i < X.ps.length:=by rw[h.flen];exact hi
   have hfl:lenOf S.files (.lit (.int .i64 (i:Int)))=(S.files[i]).1.length:=by simp[lenOf,hi]
   rw[hfl]at hstep;obtain⟨hfb,hfr⟩:=hD1.file i hi hip;have e1:=hD1.box.cell 1;simp only[Dw.cells,gE0,gE1]at e1;obtain⟨g,cap,hg9,hcell,hbig⟩:=hD1.fileAt hi;rw[hg9]at e1;have hptr:X.ps.getD i (0,Go.undef)=X.ps[i]:=by simp[C_,hip]
   rw[hptr]at hcell;unfold ptrV at hcell;have e0:=hfb.c0;obtain⟨fA,fc,hfv2,_,_,_⟩:=dw hfr;rw[hfv2]at e0;have hi':(i:Int) < (S.files.length:Int):=by omega
   have hus:U=(es.map fun p=>lenOf S.files p.2).sum:=HUS;have hsb:sumL (lenOf S.files) left es+S.files[i].1.length≤1099511627776:=by omega
   have HST:=H_ hstep;generalize (S.files[i]).1.length=F at *;generalize hS:sumL (lenOf S.files) left es=T at *;clear hus hstep hle hat hia hv hy2 hfr hfb hptr hgi hp0 hg9;go_wp2;go_roundw
   case rel=>exact⟨_,cnt1,by rw[HST.out];simp,hrg1,hb1⟩
   case measure=>rw[hrg1.left_eq,hrg.left_eq];exact hlt
end
section
open Go Go.RowKit Go.Maps
def ny3 (t:Tn):Value:=.agg #[.int .i64 (t.kind:Int),.int .i64 (t.file:Int),.string (str t.a),.string (str t.b)]
theorem vk4 (k f:Nat) (a b:List UInt8) (ha:a.length≤maxLen) (hb:b.length≤maxLen) (hf:f≤9223372036854775807) (nb n:Nat) (M:Nm) (w:World) (h:ax1 w nb n M) (hn:n < maxLen) (hk:k=1∨k=2∨k=3):
  Calls Tryz.prog 63 #[ny3 ⟨k,f,a,b⟩,.map (some nb)] w fun e w'=>e=.returned (.tuple #[])∧ax1 w' nb (n+1) (Tn.go ⟨k,f,a,b⟩ M)∧Chg [nb] w w':=by
 have hka:keyOf Tryz.prog 9 (.string (str a))=some (.string a):=by rw[tk4 (by rw[kz];exact ha),nz]
 have hkb:keyOf Tryz.prog 9 (.string (str b))=some (.string b):=by rw[tk4 (by rw[kz];exact hb),nz]
 have hlt:=h.lt;unfold ny3;simp only
 rcases hk with rfl|rfl|rfl
 ·have hgo:Tn.go ⟨1,f,a,b⟩ M=M.put a f:=rfl
  rw[hgo];have hwf:(Lit.int .i64 (f:Int)).wf=true:=WalkArith.wf_i64 (by omega);have HP:=H_ (Nm.cj3 M a f);go_enter Tryz.func63,Tryz.ntmps63;go_wp2_with (at_mapUpdate;refine wpList_mapUpdate_own _ rfl _ _ _ 90 rfl 9 3 vq1 Tryz.underlying90 _ nb n _ rfl (h.alloc _) hn _ _ _ rfl rfl hka _ [] (plainElem_int Tryz.underlying3 hwf) ?_;intro w1 hown1 hgrow1);have hc:Chg [nb] w w1:=(Chg.refl [nb] w|>.alloc _).trans (Chg.pz (F:=[nb]) hgrow1 (fun b hb=>by cases hb;simp)) (fun g hg=>.inl hg);rw[HP.out]at hown1;go_wp2;exact bodyPost_end (v:=.tuple #[]) (by simp[results,go_sem]) rfl ⟨rfl,hown1,hc⟩
 ·cases hg:M.get a with
  |none=>
   have hgo:Tn.go ⟨2,f,a,b⟩ M=M:=by unfold Tn.go;simp[hg]
   rw[hgo];have HH:Hid (Maps.has (Nm.enc M) (.string a)=false):=by
    have:=Nm.lk2 M a;rw[hg]at this;exact this
   clear hgo hg;go_enter Tryz.func63,Tryz.ntmps63;go_wp2_with (at_lookup;refine wpList_lookup_own_ok_int _ rfl _ _ 90 rfl 9 3 .i64 vq1 Tryz.underlying90 Tryz.underlying3 (nz2 _) nb _ _ rfl (h.alloc _) _ _ rfl hka ?_;intro c hat hwc;rw[HH.out]);have hc:Chg [nb] w (w.alloc (.cells #[.int .i64 2,.int .i64 (f:Int),.string (str a),.string (str b)] 118)):=(Chg.refl [nb] w).alloc _;go_wp2;exact bodyPost_end (v:=.tuple #[]) (by simp[results,go_sem]) rfl ⟨rfl,(h.alloc _).mono (by omega),hc⟩
  |some i=>
   have hgo:Tn.go ⟨2,f,a,b⟩ M=(M.put b i).del a:=by unfold Tn.go;simp[hg]
   rw[hgo];have HH:Hid (Maps.has (Nm.enc M) (.string a)=true):=by
    have:=Nm.lk2 M a;rw[hg]at this;exact this
   have HA:=H_ (fun z=>Nm.yj3 M a z hg);have HP:=H_ (Nm.cj3 M b i);have HD:=H_ (Nm.cy4 (M.put b i) a);clear hgo;go_enter Tryz.func63,Tryz.ntmps63;go_wp2_with (first
    |(at_lookup;refine wpList_lookup_own_ok_int _ rfl _ _ 90 rfl 9 3 .i64 vq1 Tryz.underlying90 Tryz.underlying3 (nz2 _) nb _ _ rfl (h.alloc _) _ _ rfl hka ?_;intro c hat hwc;rw[HA.out]at hat;injection hat with hat;injection hat with _ hat;subst hat;rw[HH.out])
    |(at_mapUpdate;refine wpList_mapUpdate_own _ rfl _ _ _ 90 rfl 9 3 vq1 Tryz.underlying90 _ nb n _ rfl (h.alloc _) hn _ _ _ rfl rfl hkb _ [] (plainElem_int Tryz.underlying3 hwc) ?_;intro w1 hown1 hgrow1;have hc1:Chg [nb] w w1:=(Chg.refl [nb] w|>.alloc _).trans (Chg.pz (F:=[nb]) hgrow1 (fun b hb=>by cases hb;simp)) (fun g hg=>.inl hg);have hq2:w1.cell? ⟨w.heap.size,2,none⟩=some (.string (str a)):=(W_ (hgrow1.block w.heap.size (by simp) (fun e=>by injection e with e;omega))).trans (by rw[World.cell?_alloc_at _ _ _ _ rfl];rfl))
    |(at_delete;refine wpList_delete_own _ rfl _ _ 90 9 rfl 3 vq1 Tryz.underlying90 _ nb (n+1) _ rfl hown1 _ _ rfl hka ?_;intro w2 hown2 hturn2))
   have hc:Chg [nb] w w2:=hc1.trans (Chg.pz (F:=[nb]) hturn2.grown (fun b hb=>by cases hb;simp)) (fun g hg=>.inl hg);rw[HP.out,HD.out]at hown2;go_wp2;exact bodyPost_end (v:=.tuple #[]) (by simp[results,go_sem]) rfl ⟨rfl,hown2,hc⟩
 ·have hgo:Tn.go ⟨3,f,a,b⟩ M=M.del a:=rfl
  rw[hgo];have HD:=H_ (Nm.cy4 M a);go_enter Tryz.func63,Tryz.ntmps63;go_wp2_with (at_delete;refine wpList_delete_own _ rfl _ _ 90 9 rfl 3 vq1 Tryz.underlying90 _ nb n _ rfl (h.alloc _) _ _ rfl hka ?_;intro w1 hown1 hturn1);have hc:Chg [nb] w w1:=(Chg.refl [nb] w|>.alloc _).trans (Chg.pz (F:=[nb]) hturn1.grown (fun b hb=>by cases hb;simp)) (fun g hg=>.inl hg);rw[HD.out]at hown1;go_wp2;exact bodyPost_end (v:=.tuple #[]) (by simp[results,go_sem]) rfl ⟨rfl,hown1.mono (by omega),hc⟩
end
end Go.Proofs.YthjdpplgfdihoaaGreatDoor
