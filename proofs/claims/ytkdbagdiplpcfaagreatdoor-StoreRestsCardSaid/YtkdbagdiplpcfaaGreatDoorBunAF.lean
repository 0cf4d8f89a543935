/- Some of the texts. No conditions. -/
import Derived.Test.YtkdbagdiplpcfaaGreatDoorBunAA
import Derived.Test.YtkdbagdiplpcfaaGreatDoorBunAB
import Derived.Lib.SmallJoins
import Derived.Lib.AppendIntMem
import Derived.Lib.ItoaLen
import Derived.Stop.LaidErr
import Derived.LaidHandle

set_option linter.unusedSimpArgs false
set_option linter.unusedVariables false
set_option maxRecDepth 100000
set_option maxHeartbeats 16000000
namespace Go.Proofs.YtkdbagdiplpcfaaGreatDoor
open Go.Proofs.Tryz Go Go.RowKit Go.Lib Go.Shelf
abbrev Nm:=List (List UInt8×Nat)
namespace Nm
def get (m:Nm) (s:List UInt8):Option Nat:=(m.find? fun p=>p.1==s).map (·.2)
def ins (x:List UInt8×Nat):Nm->Nm
 |[]=>[x]
 |y::r=>if bytesBefore x.1 y.1 then x::y::r else y::ins x r
def del (m:Nm) (s:List UInt8):Nm:=m.filter fun p=>!(p.1==s)
def put (m:Nm) (s:List UInt8) (i:Nat):Nm:=ins (s,i) (del m s)
def lit1 (p:List UInt8×Nat):Lit×DataW Unit:=(.string p.1,.lit (.int .i64 (p.2:Int)))
def enc (m:Nm):DataW Unit:=.map (m.map lit1)
def Apart (m:Nm):Prop:=m.Pairwise fun p q=>p.1≠q.1
theorem ij4 (x:List UInt8×Nat):∀m:Nm,DataW.insert (lit1 x) (m.map lit1)=(ins x m).map lit1
 |[]=>rfl
 |y::r=>by
  have C:=ij4 x r;simp only[Z_,DataW.insert,ins];have e:(lit1 x).1.before (lit1 y).1=bytesBefore x.1 y.1:=rfl;rw[e];split
  ·simp
  ·simp[C]
theorem rk2 (s:List UInt8) (m:Nm):(m.map lit1).filter (fun p=>!p.1.sameKey (.string s))=(del m s).map lit1:=by
 induction m with
 |nil=>rfl
 |cons y r C=>
  have e:(lit1 y).1.sameKey (.string s)=(y.1==s):=rfl;simp only[Z_,ar_,e,del]at C ⊢;split<;>simp_all
theorem vy4 (m:Nm) (s:List UInt8):(enc m).del (.string s)=enc (del m s):=by
 unfold enc DataW.del;simp only;rw[rk2]
theorem lx3 (m:Nm) (s:List UInt8) (i:Nat):(enc m).put (.string s) (.lit (.int .i64 (i:Int)))=enc (put m s i):=by
 unfold enc DataW.put put;simp only;rw[rk2,<-ij4];rfl
theorem ty3 (s:List UInt8) (m:Nm):(m.map lit1).find? (fun p=>p.1.sameKey (.string s))=(m.find? fun p=>p.1==s).map lit1:=by
 induction m with
 |nil=>rfl
 |cons y r C=>
  have e:(lit1 y).1.sameKey (.string s)=(y.1==s):=rfl;simp only[Z_,bV_,e];split<;>simp_all
theorem tj2 (m:Nm) (s:List UInt8):Maps.has (enc m) (.string s)=(get m s).isSome:=by
 unfold enc get;have e:(m.map lit1).any (fun p=>p.1.sameKey (.string s))=((m.map lit1).find? (fun p=>p.1.sameKey (.string s))).isSome:=by
  rw[cb_,List.find?_isSome,ay_]
 rw[Maps.has_eq,e,ty3];simp
theorem nk4 (m:Nm) (s:List UInt8) (z:DataW Unit) {i:Nat} (h:get m s=some i):(enc m).atKey (.string s) z=.lit (.int .i64 (i:Int)):=by
 unfold enc DataW.atKey;simp only;rw[ty3];unfold get at h
 cases C:m.find? (fun p=>p.1==s) with
 |none=>rw[C]at h;cases h
 |some p=>rw[C]at h;simp at h;simp[lit1,h]
theorem bx2 (m:Nm):Maps.size (enc m)=m.length:=by simp[enc,Maps.size_eq]
theorem get_mem {m:Nm} {s:List UInt8} {i:Nat} (h:get m s=some i):(s,i)∈m:=by
 unfold get at h
 cases C:m.find? (fun p=>p.1==s) with
 |none=>rw[C]at h;cases h
 |some p=>
  rw[C]at h;have h1:=ck_ C;have h2:=List.find?_some C;simp at h h2;subst h;subst h2;exact h1
theorem ej2 {x y:List UInt8×Nat}:∀{m:Nm},y∈ins x m↔y=x\/y∈m
 |[]=>by simp[ins]
 |z::r=>by
  have C:=@ej2 x y r;simp only[ins];split
  ·simp
  ·simp[C,or_left_comm]
theorem dv1 {m:Nm} {s:List UInt8} {p:List UInt8×Nat}:p∈del m s↔p∈m/\p.1≠s:=by simp[del]
theorem xy {m:Nm} {s:List UInt8} {i:Nat} {p:List UInt8×Nat}:p∈put m s i↔p=(s,i)\/(p∈m/\p.1≠s):=by rw[put,ej2,dv1]
theorem yq1 {m:Nm} (h:Apart m) {s:List UInt8} {i:Nat} (C:(s,i)∈m):get m s=some i:=by
 unfold Apart at h
 induction m with
 |nil=>cases C
 |cons y r E=>
  obtain⟨h1,h2⟩:=U_.1 h;unfold get;rw[bV_]
  rcases f_.1 C with rfl|C
  ·simp
  ·have:=h1 _ C
   simp only at this;rw[show (y.1==s)=false from by simpa using this];exact E h2 C
theorem nx2 (x:List UInt8×Nat):∀m:Nm,(ins x m).length=m.length+1
 |[]=>rfl
 |y::r=>by
  simp only[ins];split
  ·simp
  ·simp[nx2 x r]
theorem uj1 {m:Nm} (h:Apart m) (s:List UInt8):Apart (del m s):=List.Pairwise.filter _ h
theorem cw3 {x:List UInt8×Nat}:∀{m:Nm},Apart m->(∀p∈m,p.1≠x.1)->Apart (ins x m)
 |[],_,_=>by simp[ins,Apart]
 |y::r,h,E=>by
  obtain⟨h1,h2⟩:=U_.1 h;simp only[ins];split
  ·exact U_.2 ⟨fun p C=>fun e=>E p C e.symm,h⟩
  ·refine U_.2 ⟨fun p C=>?_,cw3 h2 (fun p C=>E p (by simp[C]))⟩
   rcases ej2.1 C with rfl|C
   ·exact E y s_
   ·exact h1 p C
theorem iw1 {m:Nm} (h:Apart m) (s:List UInt8) (i:Nat):Apart (put m s i):=cw3 (uj1 h s) (fun _ C=>(dv1.1 C).2)
theorem get_none {m:Nm} {s:List UInt8}:get m s=none↔∀p∈m,p.1≠s:=by
 unfold get;simp
theorem ak2 (m:Nm) (s:List UInt8):get (del m s) s=none:=get_none.2 fun _ C=>(dv1.1 C).2
theorem sy1 {m:Nm} (h:Apart m) {s t:List UInt8} (C:t≠s):get (del m s) t=get m t:=by
 cases E:get m t with
 |none=>exact get_none.2 fun p H=>get_none.1 E p (dv1.1 H).1
 |some i=>exact yq1 (uj1 h s) (dv1.2 ⟨get_mem E,C⟩)
theorem aq2 {m:Nm} (h:Apart m) (s:List UInt8) (i:Nat):get (put m s i) s=some i:=yq1 (iw1 h s i) (xy.2 (.inl rfl))
theorem kj1 {m:Nm} (h:Apart m) {s t:List UInt8} (C:t≠s) (i:Nat):get (put m s i) t=get m t:=by
 cases H:get m t with
 |none=>
  refine get_none.2 fun p E=>?_
  rcases xy.1 E with rfl|⟨E,_⟩
  ·exact fun e=>C e.symm
  ·exact get_none.1 H p E
 |some j=>exact yq1 (iw1 h s i) (xy.2 (.inr ⟨get_mem H,C⟩))
theorem tq1 (m:Nm) (s:List UInt8):(del m s).length<=m.length:=L_ _ _
theorem vj2 {m:Nm} {s:List UInt8} {i:Nat} (h:get m s=some i):(del m s).length < m.length:=by
 have C:=get_mem h;unfold del;refine List.length_filter_lt_length_iff_exists.2 ⟨_,C,by simp⟩
theorem tj1 (m:Nm) (s:List UInt8) (i:Nat):(put m s i).length<=m.length+1:=by
 rw[put,nx2];have:=tq1 m s;omega
end Nm
structure Tn where
 kind:Nat
 file:Nat
 a:List UInt8
 b:List UInt8
def Tn.go (t:Tn) (m:Nm):Nm:=
 if t.kind=1 then m.put t.a t.file
 else if t.kind=2 then match m.get t.a with
  |some i=>(m.put t.b i).del t.a
  |none=>m
 else if t.kind=3 then m.del t.a
 else m
structure Sd where
 quota:Nat
 files:List (List UInt8×Nat)
 names:Nm
 lasted:Nm
 turns:List Tn
 calls:Int
 dead:Bool
 stop:Nat
 fail:Nat
namespace Sd
variable (d:Sd)
def okCh (c:UInt8):Bool:=(decide (97<=c.toNat) &&decide (c.toNat<=122))||(decide (48<=c.toNat) &&decide (c.toNat<=57))||decide (c.toNat=46)
def named (s:List UInt8):Bool:=decide (1<=s.length) &&decide (s.length<=16) &&s.all okCh
def new (quota:Int):Sd:=⟨quota.toNat,[],[],[],[],0,false,0,0⟩
def call (names:List (List UInt8)):Sd×Nat:=
 if names.all named=false then (d,10)
 else
  let d1:={ d with calls:=wrap64 (d.calls+1) }
  if d.dead=true then (d1,50)
  else
   let d2:=if 0 < d.stop then { d1 with stop:=d.stop - 1,dead:=decide (d.stop - 1=0) } else d1
   if 0 < d.fail then
    let d3:={ d2 with fail:=d.fail - 1 }
    if d.fail - 1=0 then (d3,15) else (d3,0)
   else (d2,0)
def size (i:Nat):Nat:=(d.files.getD i ([],0)).1.length
def used:Nat:=(d.names.map fun p=>d.size p.2).sum
def create (s:List UInt8):Sd×Nat:=
 let c:=d.call [s]
 if c.2≠0 then c
 else if (d.names.get s).isSome then (c.1,12)
 else if 64<=d.names.length then (c.1,65)
 else ({ c.1 with names:=d.names.put s d.files.length,turns:=d.turns++[⟨1,d.files.length,s,[]⟩],files:=d.files++[([],0)] },0)
def append (s b:List UInt8):Sd×Nat:=
 let c:=d.call [s]
 if c.2≠0 then c
 else match d.names.get s with
  |none=>(c.1,11)
  |some i=>
   if 250000 < b.length\/250000 < d.size i+b.length then (c.1,2)
   else if d.quota < d.used+b.length then (c.1,15)
   else ({ c.1 with files:=d.files.set i ((d.files.getD i ([],0)).1++b,(d.files.getD i ([],0)).2) },0)
def read (s:List UInt8):List UInt8×Nat:=
 if named s=false then ([],10)
 else if d.dead=true then ([],50)
 else match d.names.get s with
  |none=>([],11)
  |some i=>((d.files.getD i ([],0)).1,0)
def sync (s:List UInt8):Sd×Nat:=
 let c:=d.call [s]
 if c.2≠0 then c
 else match d.names.get s with
  |none=>(c.1,11)
  |some i=>({ c.1 with files:=d.files.set i ((d.files.getD i ([],0)).1,d.size i) },0)
def rename (a b:List UInt8):Sd×Nat:=
 let c:=d.call [a,b]
 if c.2≠0 then c
 else if (d.names.get a).isNone then (c.1,11)
 else if a=b then (c.1,0)
 else ({ c.1 with names:=Tn.go ⟨2,0,a,b⟩ d.names,turns:=d.turns++[⟨2,0,a,b⟩] },0)
def remove (s:List UInt8):Sd×Nat:=
 let c:=d.call [s]
 if c.2≠0 then c
 else if (d.names.get s).isNone then (c.1,11)
 else ({ c.1 with names:=Tn.go ⟨3,0,s,[]⟩ d.names,turns:=d.turns++[⟨3,0,s,[]⟩] },0)
def ax:Sd×Nat:=
 let c:=d.call []
 if c.2≠0 then c
 else ({ c.1 with lasted:=d.names,turns:=[] },0)
def list:List (List UInt8):=if d.dead=true then [] else (d.names.map (·.1)).mergeSort fun x y=>decide (x<=y)
def load:Nat:=d.files.length+d.turns.length
def rq1 (m:Nm) (n:Nat):Prop:=∀p∈m,p.2 < n
structure Wf:Prop where
 quota:d.quota<=1099511627776
 file:∀i (h:i < d.files.length),d.files[i].2<=d.files[i].1.length/\d.files[i].1.length<=250000
 names:rq1 d.names d.files.length
 lasted:rq1 d.lasted d.files.length
 apart:Nm.Apart d.names
 lapart:Nm.Apart d.lasted
 most:d.names.length<=64
 turn:∀t∈d.turns,t.file<=d.files.length/\(t.kind=1->t.file < d.files.length)
 gnames:∀p∈d.names,named p.1=true
 glasted:∀p∈d.lasted,named p.1=true
 gturns:∀t∈d.turns,named t.a=true/\(t.kind=2->named t.b=true)/\(t.kind=1\/t.kind=2\/t.kind=3)
 stop:d.stop<=9223372036854775807
 fail:d.fail<=9223372036854775807
end Sd
def str (l:List UInt8):ByteArray:=⟨l.toArray⟩
theorem dq1 (s:ByteArray):str s.data.toList=s:=by simp[str]
theorem oz (l:List UInt8):(str l).data.toList=l:=by simp[str]
theorem ny (l:List UInt8):(str l).size=l.length:=by simp[str,ByteArray.size]
structure Dw where
 d:Nat
 nb:Nat
 lb:Nat
 fv:Value
 tv:Value
 ps:List (Nat×Value)
def iw (p:Nat×Value):List Nat:=p.1::p.2.ownBlock.toList
def Dw.foot (X:Dw):List Nat:=[X.d] ++([X.nb] ++([X.lb] ++(X.fv.ownBlock.toList++(X.tv.ownBlock.toList++X.ps.flatMap iw))))
def ptrV (p:Nat×Value):Value:=.pointer (some ⟨p.1,0,none⟩)
def bw1 (t:Tn):List Value:=[.int .i64 (t.kind:Int),.int .i64 (t.file:Int),.string (str t.a),.string (str t.b)]
structure az2 (w:World) (p:Nat×Value) (f:List UInt8×Nat):Prop where
 box:BoxO w 232 p.1 [p.2,.int .i64 (f.2:Int)]
 row:w.ownsRow 0 5 1 p.2 f.1.length (bts f.1)
abbrev cj1 (w:World) (nb n:Nat) (M:Nm):Prop:=w.ownsMap prog 9 (plainElem (H:=Unit) prog 3) nb n (Nm.enc M)
def Dw.cells (X:Dw) (S:Sd):List Value:=[.int .i64 (S.quota:Int),X.fv,.map (some X.nb),.map (some X.lb),X.tv,.int .i64 S.calls,.bool S.dead,.int .i64 (S.stop:Int),.int .i64 (S.fail:Int)]
structure DK (w:World) (X:Dw) (S:Sd):Prop where
 box:BoxO w 114 X.d (X.cells S)
 names:cj1 w X.nb S.names.length S.names
 lasted:cj1 w X.lb S.lasted.length S.lasted
 files:w.ownsRow 0 211 1 X.fv S.files.length (X.ps.map ptrV)
 file:∀i (h:i < S.files.length) (h2:i < X.ps.length),az2 w X.ps[i] S.files[i]
 turns:w.ownsRow 0 214 4 X.tv S.turns.length (S.turns.flatMap bw1)
 nodup:X.foot.Nodup
variable {w w':World} {X:Dw} {S:Sd} {G:List Nat}
theorem DK.flen (h:DK w X S):X.ps.length=S.files.length:=by
 have:=h.files.1;simpa using this
theorem jy {base n size:Nat} {e:TypeId} {v:Value} {xs:List Value} (h:w.ownsRow base e size v n xs) (c:Chg G w w') (C:∀g,v.ownBlock=some g->g∉G):w'.ownsRow base e size v n xs:=by
 refine⟨h.1,?_⟩
 rcases h.2 with E|⟨g,cap,cur,rfl,h1,h2,r⟩
 ·exact .inl E
 ·exact .inr ⟨g,cap,cur,rfl,h1,(c.block g (A_.1 h2).1 (C g rfl)).trans h2,r⟩
theorem cq1 {b n:Nat} {D:DataW Unit} {k e:TypeId} (h:w.ownsMap prog k (plainElem (H:=Unit) prog e) b n D) (c:Chg G w w') (E:b∉G):w'.ownsMap prog k (plainElem (H:=Unit) prog e) b n D:=by
 have C:=h.lt;obtain⟨es,clock,I,r⟩:=h;exact⟨es,clock,(c.block b C E).trans I,r⟩
theorem uy4 {b n:Nat} {D:DataW Unit} {k e:TypeId} (h:w.ownsMap prog k (plainElem (H:=Unit) prog e) b n D):w.ownsMap prog k (plainElem (H:=Unit) prog e) b (Maps.size D) D:=by
 obtain⟨es,clock,C,F,hs,rfl⟩:=h;exact⟨es,clock,C,F,by rw[Maps.size_eq,length_sorted];simp,rfl⟩
theorem ow3 {b n:Nat} {M:Nm} (h:cj1 w b n M):cj1 w b M.length M:=by
 have h1:=uy4 h
 rwa [Nm.bx2]at h1
theorem az2.chg {p:Nat×Value} {f:List UInt8×Nat} (h:az2 w p f) (c:Chg G w w') (C:∀g∈iw p,g∉G):az2 w' p f:=
 ⟨h.box.chg c (C _ (by simp[iw])),jy h.row c (fun g e=>C g (by simp[iw,e]))⟩
theorem aj {g:Nat}:g∈X.foot↔g=X.d\/g=X.nb\/g=X.lb\/X.fv.ownBlock=some g\/X.tv.ownBlock=some g\/∃p∈X.ps,g∈iw p:=by
 simp[Dw.foot,ac_]
theorem DK.lt (h:DK w X S):∀g∈X.foot,g < w.heap.size:=by
 intro g H
 rcases aj.1 H with rfl|rfl|rfl|h1|h1|⟨p,I,C⟩
 ·exact h.box.lt
 ·exact h.names.lt
 ·exact h.lasted.lt
 ·exact(h.files.lt g h1).2
 ·exact(h.turns.lt g h1).2
 ·obtain⟨i,hi,rfl⟩:=aX_ I
  have E:=h.file i (by have:=h.flen;omega) hi;simp only[iw,f_,a7_]at C
  rcases C with rfl|C
  ·exact E.box.lt
  ·exact(E.row.lt g C).2
structure Apart (X:Dw):Prop where
 d_nb:X.d≠X.nb
 d_lb:X.d≠X.lb
 nb_lb:X.nb≠X.lb
 fv:∀g,X.fv.ownBlock=some g->g≠X.d/\g≠X.nb/\g≠X.lb/\X.tv.ownBlock≠some g
 tv:∀g,X.tv.ownBlock=some g->g≠X.d/\g≠X.nb/\g≠X.lb/\X.fv.ownBlock≠some g
 ps:∀p∈X.ps,∀g∈iw p,g≠X.d/\g≠X.nb/\g≠X.lb/\X.fv.ownBlock≠some g/\X.tv.ownBlock≠some g
 each:∀i j (hi:i < X.ps.length) (hj:j < X.ps.length),i≠j->∀g∈iw X.ps[i],g∉iw X.ps[j]
 self:∀p∈X.ps,p.2.ownBlock≠some p.1
theorem nj2 {α:Type} (f:α->List Nat):∀(l:List α),(l.flatMap f).Nodup->(∀i j (hi:i < l.length) (hj:j < l.length),i≠j->∀g∈f l[i],g∉f l[j])/\∀p∈l,(f p).Nodup
 |[],_=>⟨fun i j hi=>by simp at hi,fun p E=>by cases E⟩
 |a::r,h=>by
  rw[S_]at h;obtain⟨h1,h2,h3⟩:=aM_.1 h;obtain⟨J,O⟩:=nj2 f r h2;refine⟨fun i j hi hj H g I C=>?_,fun p E=>?_⟩
  ·rcases i with _|i<;>rcases j with _|j
   ·exact H rfl
   ·exact h3 g (by simpa using I) g (ac_.2 ⟨r[j]'(by simpa using hj),u_ _,by simpa using C⟩) rfl
   ·exact h3 g (by simpa using C) g (ac_.2 ⟨r[i]'(by simpa using hi),u_ _,by simpa using I⟩) rfl
   ·exact J i j (by simpa using hi) (by simpa using hj) o_ g (by simpa using I) (by simpa using C)
  ·rcases f_.1 E with rfl|E
   ·exact h1
   ·exact O p E
theorem kx5 (h:X.foot.Nodup):Apart X:=by
 unfold Dw.foot at h;obtain⟨_,h,H⟩:=aM_.1 h;obtain⟨_,h,I⟩:=aM_.1 h;obtain⟨_,h,a3⟩:=aM_.1 h;obtain⟨_,h,O⟩:=aM_.1 h;obtain⟨_,h,Q⟩:=aM_.1 h;obtain⟨Z,C⟩:=nj2 iw X.ps h;simp only[k_,a_,a7_,ac_]at H I a3 O Q;refine⟨H _ rfl _ (.inl rfl),H _ rfl _ (.inr (.inl rfl)),I _ rfl _ (.inl rfl),fun g e=>⟨(H _ rfl g (.inr (.inr (.inl e)))).symm,(I _ rfl g (.inr (.inl e))).symm,(a3 _ rfl g (.inl e)).symm,fun C=>O g e g (.inl C) rfl⟩,
  fun g e=>⟨(H _ rfl g (.inr (.inr (.inr (.inl e))))).symm,(I _ rfl g (.inr (.inr (.inl e)))).symm,(a3 _ rfl g (.inr (.inl e))).symm,fun C=>O g C g (.inl e) rfl⟩,
  fun p E g J=>⟨(H _ rfl g (.inr (.inr (.inr (.inr ⟨p,E,J⟩))))).symm,(I _ rfl g (.inr (.inr (.inr ⟨p,E,J⟩)))).symm,(a3 _ rfl g (.inr (.inr ⟨p,E,J⟩))).symm,fun C=>O g C g (.inr ⟨p,E,J⟩) rfl,fun C=>Q g C g ⟨p,E,J⟩ rfl⟩,Z,fun p E e=>?_⟩
 have U:=C p E;unfold iw at U;exact(aW_.1 U).1 (by simp[e])
theorem DK.apart (h:DK w X S):Apart X:=kx5 h.nodup
theorem DK.chg (h:DK w X S) (c:Chg G w w') (E:∀g∈G,g∉X.foot):DK w' X S:=by
 have C:∀g∈X.foot,g∉G:=fun g h1 h2=>E g h2 h1;exact⟨h.box.chg c (C _ (aj.2 (.inl rfl))),cq1 h.names c (C _ (aj.2 (.inr (.inl rfl)))),cq1 h.lasted c (C _ (aj.2 (.inr (.inr (.inl rfl))))),jy h.files c (fun g e=>C g (aj.2 (.inr (.inr (.inr (.inl e)))))),
  fun i hi h2=>(h.file i hi h2).chg c (fun g e=>C g (aj.2 (.inr (.inr (.inr (.inr (.inr ⟨_,u_ h2,e⟩))))))),jy h.turns c (fun g e=>C g (aj.2 (.inr (.inr (.inr (.inr (.inl e))))))),h.nodup⟩
theorem DK.below (h:DK w X S) (C:Below w.heap.size w w'):DK w' X S:=h.chg (Chg.of_below C []) (fun g E=>by cases E)
theorem DK.ex6 {S':Sd} (h:DK w X S) (c:Chg [X.d] w w') (J:BoxO w' 114 X.d (X.cells S')) (C:S'.names=S.names) (E:S'.lasted=S.lasted) (H:S'.files=S.files) (I:S'.turns=S.turns):DK w' X S':=by
 have a:=h.apart;obtain⟨q,fs,nm,la,O,Q,U,st,fa⟩:=S';simp only at C E H I;subst C E H I;exact⟨J,cq1 h.names c (by simpa using a.d_nb.symm),cq1 h.lasted c (by simpa using a.d_lb.symm),jy h.files c (fun g e=>by simpa using (a.fv g e).1),fun i hi h2=>(h.file i hi h2).chg c (fun g e=>by simpa using (a.ps _ (u_ h2) g e).1),
  jy h.turns c (fun g e=>by simpa using (a.tv g e).1),h.nodup⟩
def Upd (X:Dw) (w w':World) (S':Sd):Prop:=∃X',X'.d=X.d/\DK w' X' S'/\Chg X.foot w w'/\∀g∈X'.foot,g∈X.foot\/w.heap.size<=g
theorem Upd.same (h:DK w' X S) (c:Chg X.foot w w'):Upd X w w' S:=⟨X,rfl,h,c,fun _ C=>.inl C⟩
theorem wy1 {I a J O:List Nat} {n:Nat} (h:(I++(a++O)).Nodup) (lt:∀x∈I++(a++O),x < n) (U:J.Nodup) (Q:∀x∈J,x∈a\/n<=x):(I++(J++O)).Nodup:=by
 obtain⟨h1,h2,h3⟩:=aM_.1 h;obtain⟨h4,h5,Z⟩:=aM_.1 h2;refine aM_.2 ⟨h1,aM_.2 ⟨U,h5,fun x C y E e=>?_⟩,fun x C y E e=>?_⟩
 ·subst e
  rcases Q x C with H|H
  ·exact Z x H x E rfl
  ·have:=lt x (by simp[E]);omega
 ·subst e
  rcases k_.1 E with E|E
  ·rcases Q x E with H|H
   ·exact h3 x C x (by simp[H]) rfl
   ·have:=lt x (by simp[C]);omega
  ·exact h3 x C x (by simp[E]) rfl
theorem DK.pw1 {n:Nat} {M:Nm} (h:DK w X S) (C:cj1 w' X.nb n M) (c:Chg [X.nb] w w'):DK w' X { S with names:=M }:=by
 have a:=h.apart;exact⟨h.box.chg c (by simpa using a.d_nb),ow3 C,cq1 h.lasted c (by simpa using a.nb_lb.symm),jy h.files c (fun g e=>by simpa using (a.fv g e).2.1),fun i hi h2=>(h.file i hi h2).chg c (fun g e=>by simpa using (a.ps _ (u_ h2) g e).2.1),
  jy h.turns c (fun g e=>by simpa using (a.tv g e).2.1),h.nodup⟩
theorem DK.iv5 {tv:Value} {ts:List Tn} (h:DK w X S) (I:w'.ownsRow 0 214 4 tv ts.length (ts.flatMap bw1)) (c:Chg ([X.d] ++X.tv.ownBlock.toList) w w') (J:∀g,tv.ownBlock=some g->X.tv.ownBlock=some g\/w.heap.size<=g)
  (O:BoxO w' 114 X.d (({ X with tv:=tv }:Dw).cells { S with turns:=ts })):DK w' { X with tv:=tv } { S with turns:=ts }:=by
 have a:=h.apart;have E:∀g,g≠X.d->X.tv.ownBlock≠some g->g∉[X.d] ++X.tv.ownBlock.toList:=fun g h1 h2 h3=>by
  rcases k_.1 h3 with h3|h3
  ·exact h1 (by simpa using h3)
  ·exact h2 (by simpa using h3)
 refine⟨O,cq1 h.names c (E _ a.d_nb.symm (fun e=>(a.tv _ e).2.1 rfl)),cq1 h.lasted c (E _ a.d_lb.symm (fun e=>(a.tv _ e).2.2.1 rfl)),jy h.files c (fun g e=>E g (a.fv g e).1 (a.fv g e).2.2.2),
  fun i hi h2=>(h.file i hi h2).chg c (fun g e=>E g (a.ps _ (u_ h2) g e).1 (a.ps _ (u_ h2) g e).2.2.2.2),I,?_⟩
 have H:=h.lt;have C:=h.nodup;unfold Dw.foot at H C ⊢;simp only[<-K_]at H C ⊢;simp only[K_ ([X.d] ++[X.nb] ++[X.lb] ++X.fv.ownBlock.toList)]at H C ⊢;exact wy1 C H (by cases tv.ownBlock<;>simp) (fun x Q=>by simpa using J x (by simpa using Q))
theorem DK.jq2 {i:Nat} {v:Value} {f:List UInt8×Nat} (h:DK w X S) (hi:i < X.ps.length) (Z:az2 w' ((X.ps[i]).1,v) f) (c:Chg (iw X.ps[i]) w w') (U:∀g,v.ownBlock=some g->(X.ps[i]).2.ownBlock=some g\/w.heap.size<=g):
  DK w' { X with ps:=X.ps.set i ((X.ps[i]).1,v) } { S with files:=S.files.set i f }:=by
 have a:=h.apart;have hp:=a.ps _ (u_ hi);have E:∀g,(g=X.d\/g=X.nb\/g=X.lb\/X.fv.ownBlock=some g\/X.tv.ownBlock=some g)->g∉iw X.ps[i]:=fun g h1 h2=>by
  obtain⟨b1,b2,b3,b4,b5⟩:=hp g h2
  rcases h1 with h1|h1|h1|h1|h1
  ·exact b1 h1
  ·exact b2 h1
  ·exact b3 h1
  ·exact b4 h1
  ·exact b5 h1
 refine⟨h.box.chg c (E _ (.inl rfl)),cq1 h.names c (E _ (.inr (.inl rfl))),cq1 h.lasted c (E _ (.inr (.inr (.inl rfl)))),?_,fun j hj h2=>?_,jy h.turns c (fun g e=>E g (.inr (.inr (.inr (.inr e))))),?_⟩
 ·have h1:=jy h.files c (fun g e=>E g (.inr (.inr (.inr (.inl e)))))
  have e:(X.ps.set i ((X.ps[i]).1,v)).map ptrV=X.ps.map ptrV:=by
   rw[List.map_set];refine cp_ s_ fun k h3 h4=>?_;rw[bJ_];split
   ·subst_vars;simp[ptrV]
   ·rfl
  simpa [e] using h1
 ·simp only[aE_]at hj h2
  simp only[bJ_];split
  ·subst_vars;exact Z
  ·rename_i J
   exact(h.file j hj h2).chg c (fun g hg O=>a.each i j hi h2 J g O hg)
 ·have H:=h.lt
  have C:=h.nodup;have e1:X.ps.flatMap iw=(X.ps.take i).flatMap iw++(iw X.ps[i] ++(X.ps.drop (i+1)).flatMap iw):=by
   conv=>lhs;rw[<-al_ i X.ps,a8_,bn_ hi,S_]
  have e2:(X.ps.set i ((X.ps[i]).1,v)).flatMap iw=(X.ps.take i).flatMap iw++(iw ((X.ps[i]).1,v)++(X.ps.drop (i+1)).flatMap iw):=by
   rw[a2_,if_pos hi,a8_,S_]
  unfold Dw.foot at H C ⊢;simp only[e2];rw[e1]at H C;simp only[<-K_]at H C ⊢;simp only[K_ ([X.d] ++[X.nb] ++[X.lb] ++X.fv.ownBlock.toList++X.tv.ownBlock.toList++(X.ps.take i).flatMap iw)]at H C ⊢;refine wy1 C H ?_ (fun x I=>?_)
  ·unfold iw
   simp only
   cases Q:v.ownBlock with
   |none=>simp
   |some g=>
    simp only[Option.toList_some,aW_,a_,aL_,not_false_eq_true,List.nodup_nil,and_true];intro e
    rcases U g Q with h1|h1
    ·exact a.self _ (u_ hi) (by rw[h1,e])
    ·have:=(h.file i (by have:=h.flen;omega) hi).box.lt
     omega
  ·simp only[iw,f_,a7_]at I ⊢
   rcases I with rfl|I
   ·exact .inl (.inl rfl)
   ·rcases U x I with h1|h1
    ·exact .inl (.inr h1)
    ·exact .inr h1
theorem DK.yz5 {fv:Value} {b:Nat} (h:DK w X S) (hr:w'.ownsRow 0 211 1 fv (S.files.length+1) ((X.ps++[(b,Value.slice none 0 0)]).map ptrV)) (a2:w.heap.size<=b) (U:fv.ownBlock≠some b)
  (hf:BoxO w' 232 b [.slice none 0 0,.int .i64 0]) (c:Chg ([X.d] ++X.fv.ownBlock.toList) w w') (hv:∀g,fv.ownBlock=some g->X.fv.ownBlock=some g\/w.heap.size<=g)
  (hb:BoxO w' 114 X.d (({ X with fv:=fv,ps:=X.ps++[(b,Value.slice none 0 0)] }:Dw).cells { S with files:=S.files++[([],0)] })):DK w' { X with fv:=fv,ps:=X.ps++[(b,Value.slice none 0 0)] } { S with files:=S.files++[([],0)] }:=by
 have a:=h.apart;have Q:∀g,g≠X.d->X.fv.ownBlock≠some g->g∉[X.d] ++X.fv.ownBlock.toList:=fun g h1 h2 h3=>by
  rcases k_.1 h3 with h3|h3
  ·exact h1 (by simpa using h3)
  ·exact h2 (by simpa using h3)
 have O:=h.flen;refine⟨hb,cq1 h.names c (Q _ a.d_nb.symm (fun e=>(a.fv _ e).2.1 rfl)),cq1 h.lasted c (Q _ a.d_lb.symm (fun e=>(a.fv _ e).2.2.1 rfl)),by simpa using hr,fun j hj h2=>?_,
  jy h.turns c (fun g e=>Q g (a.tv g e).1 (a.tv g e).2.2.2),?_⟩
 ·simp only[d_,ad_]at hj h2
  rcases ah_ j X.ps.length with h3|h3
  ·simp only[aR_ h3,aR_ (show j < S.files.length by omega)]
   exact(h.file j o_ h3).chg c (fun g e=>Q g (a.ps _ (u_ h3) g e).1 (a.ps _ (u_ h3) g e).2.2.2.1)
  ·have e1:j=X.ps.length:=o_
   subst e1;have e2:(X.ps++[(b,Value.slice none 0 0)])[X.ps.length]'s_=(b,Value.slice none 0 0):=by simp
   have e3:(S.files++[(([]:List UInt8),0)])[X.ps.length]'(by simp[O])=([],0):=by simp[O]
   rw[e2,e3];exact⟨hf,E_ _ _ _ _⟩
 ·have J:=h.lt
  have E:=h.nodup;have I:(([X.d] ++([X.nb] ++([X.lb] ++(fv.ownBlock.toList++(X.tv.ownBlock.toList++X.ps.flatMap iw)))))).Nodup:=by
   unfold Dw.foot at J E;simp only[<-K_]at J E ⊢;simp only[K_ ([X.d] ++[X.nb] ++[X.lb])]at J E ⊢;simp only[K_ X.fv.ownBlock.toList,K_ fv.ownBlock.toList]at J E ⊢;exact wy1 E J (by cases fv.ownBlock<;>simp) (fun x C=>by simpa using hv x (by simpa using C))
  unfold Dw.foot;simp only[a8_,S_,List.flatMap_nil,ak_];have e:iw (b,Value.slice none 0 0)=[b]:=by simp[iw,Value.ownBlock]
  rw[e];simp only[<-K_]at I ⊢;refine aM_.2 ⟨I,by simp,fun x C y hy e0=>?_⟩;simp only[a_]at hy;subst hy;subst e0;have H:∀g∈X.foot,g≠x:=fun g Z=>by have:=J g Z;omega
  simp only[k_,a_,a7_]at C
  rcases C with ((((C|C)|C)|C)|C)|C
  ·exact H _ (aj.2 (.inl rfl)) C.symm
  ·exact H _ (aj.2 (.inr (.inl rfl))) C.symm
  ·exact H _ (aj.2 (.inr (.inr (.inl rfl)))) C.symm
  ·exact U C
  ·exact H _ (aj.2 (.inr (.inr (.inr (.inr (.inl C)))))) rfl
  ·obtain⟨p,hp,Z⟩:=ac_.1 C
   exact H _ (aj.2 (.inr (.inr (.inr (.inr (.inr ⟨p,hp,Z⟩)))))) rfl
section
open Go.Maps
theorem wq4 (g t:Nat):(⟨g,0,none⟩:Addr).add t=⟨g,t,none⟩:=by
 unfold Addr.add;split
 ·subst_vars;rfl
 ·simp
theorem bj2 {a b:Bool} (h:a=b):Ending.returned (.bool a)=.returned (.bool b):=by rw[h]
theorem kk5 {s:ByteArray} {k:Nat} (h:k < s.size):(s.data.toList.take (k+1)).all Sd.okCh=((s.data.toList.take k).all Sd.okCh&&Sd.okCh s[k]):=by
 rw[r_ (by simpa using h),bj_];simp;rfl
theorem zk5 {s:ByteArray} {k:Nat} (h:k < s.size) (C:Sd.okCh s[k]=false):s.data.toList.all Sd.okCh=false:=by
 rw[List.all_eq_false];exact⟨s[k],by
  have:s[k]=s.data.toList[k]'(by simpa using h):=rfl;rw[this];exact u_ _,by simp[C]⟩
theorem kw2 (s:ByteArray) (hs:s.size<=maxLen) (w:World):Calls prog 170 #[.string s] w fun e w'=>e=.returned (.bool (Sd.named s.data.toList))/\w=w':=by
 unfold maxLen at hs
 by_cases h1:s.size < 1
 ·have E:Sd.named s.data.toList=false:=by
   have:s.data.toList.length < 1:=by simpa using h1
   simp[Sd.named];omega
  rw[E];clear E;go_enter func170,ntmps170;go_wp2;go_ret;exact⟨rfl,rfl⟩
 by_cases h2:16 < s.size
 ·have E:Sd.named s.data.toList=false:=by
   have:16 < s.data.toList.length:=by simpa using h2
   simp[Sd.named];omega
  rw[E];clear E;go_enter func170,ntmps170;go_wp2;go_ret;exact⟨rfl,rfl⟩
 have E:Sd.named s.data.toList=s.data.toList.all Sd.okCh:=by
  have:s.data.toList.length=s.size:=by simp
  simp only[Sd.named,this];rw[decide_eq_true o_,decide_eq_true o_];rfl
 rw[E];clear E;obtain⟨R,hR⟩:=n_ (s.data.toList.all Sd.okCh);rw[<-hR];have U:=H_ hR;clear hR;go_enter func170,ntmps170;go_wp2
 go_loop [15] (fun i=>∃k:Nat,k<=s.size/\i=.int .i64 (k:Int)/\(s.data.toList.take k).all Sd.okCh=true) (fun i=>s.size - (intOf i).toNat)
 case atStart=>exact⟨0,w_ _,rfl,rfl⟩
 case round=>
  obtain⟨k,hk,rfl,H⟩:=hrel;have HA:=H_ H;clear H
  by_cases I:k < s.size
  ·cases C:Sd.okCh s[k] with
   |true=>
    have HT:Hid ((s.data.toList.take (k+1)).all Sd.okCh=true):=H_ (by rw[kk5 I,HA.out,C];rfl);simp only[Sd.okCh,bR_,G_,decide_eq_true_eq]at C
    rcases C with (⟨c1,c2⟩|⟨c1,c2⟩)|c1
    ·have J:((s[k].toNat:Int) < 97)=False:=by simp;omega
     have O:((122:Int) < (s[k].toNat:Int))=False:=by simp;omega
     clear c1 c2;go_wp2
     go_round
     case rel=>exact⟨k+1,o_,by go_num,HT.out⟩
     case measure=>simp[intOf];omega
    ·have J:((s[k].toNat:Int) < 97):=o_
     have O:((s[k].toNat:Int) < 48)=False:=by simp;omega
     have Z:((57:Int) < (s[k].toNat:Int))=False:=by simp;omega
     clear c1 c2;go_wp2
     go_round
     case rel=>exact⟨k+1,o_,by go_num,HT.out⟩
     case measure=>simp[intOf];omega
    ·have J:((s[k].toNat:Int) < 97):=o_
     have O:((s[k].toNat:Int) < 48):=o_
     have Z:((s[k].toNat:Int)==46)=true:=by simp[c1]
     have e4:((s[k].toNat:Int) !=46)=false:=by simp[bne,Z]
     clear c1;go_wp2
     go_round
     case rel=>exact⟨k+1,o_,by go_num,HT.out⟩
     case measure=>simp[intOf];omega
   |false=>
    have Q:=H_ (zk5 I C);simp only[Sd.okCh,b7_,Bool.and_eq_false_iff,decide_eq_false_iff_not]at C;obtain⟨⟨c1,c2⟩,c3⟩:=C;have Z:((s[k].toNat:Int)==46)=false:=by simp;omega
    have e4:((s[k].toNat:Int) !=46)=true:=by simp[bne,Z]
    by_cases d1:s[k].toNat < 48
    ·have J:((s[k].toNat:Int) < 97):=o_
     have O:((s[k].toNat:Int) < 48):=o_
     clear c1 c2 c3 d1;go_wp2;go_ret;exact⟨bj2 (U.out.trans Q.out).symm,rfl⟩
    by_cases d2:s[k].toNat < 97
    ·have J:((s[k].toNat:Int) < 97):=o_
     have O:((s[k].toNat:Int) < 48)=False:=by simp;omega
     have e5:((57:Int) < (s[k].toNat:Int)):=o_
     clear c1 c2 c3 d1 d2;go_wp2;go_ret;exact⟨bj2 (U.out.trans Q.out).symm,rfl⟩
    have J:((s[k].toNat:Int) < 97)=False:=by simp;omega
    have O:((122:Int) < (s[k].toNat:Int)):=o_
    have e6:((s[k].toNat:Int) < 48)=False:=by simp;omega
    have e5:((57:Int) < (s[k].toNat:Int)):=o_
    clear c1 c2 c3 d1 d2;go_wp2;go_ret;exact⟨bj2 (U.out.trans Q.out).symm,rfl⟩
  ·have ha:s.data.toList.all Sd.okCh=true:=by
    have:=HA.out
    rwa [g_ (by simp;omega)]at this
   have Q:=H_ ha;clear ha;go_wp2;go_ret;exact⟨bj2 (U.out.trans Q.out).symm,rfl⟩
theorem vq2 (X:Nat) (b:Bool) (w:World) (h:w.cell? ⟨X,6,none⟩=some (.bool b)):Calls prog 44 #[.pointer (some ⟨X,0,none⟩)] w fun e w'=>e=.returned (.bool b)/\w=w':=by
 go_enter func44,ntmps44;go_wp2;go_ret;exact⟨rfl,rfl⟩
theorem xv2 (w:World):(zeroValue 3).run prog w=.ok (.int .i64 0) w:=by kernel_rfl
theorem bz2:Keyed prog 9:=Maps.string_keyed underlying9
theorem ik5 {s:ByteArray} (hs:s.size<=maxLen):keyOf prog 9 (.string s)=some (.string s.data.toList):=Go.WideMaps.keyOf_string_mk underlying9 hs
theorem DK.fileAt {w:World} {X:Dw} {S:Sd} (h:DK w X S) {i:Nat} (hi:i < S.files.length):∃g cap,X.fv=.slice (some ⟨g,0,none⟩) S.files.length cap/\w.cell? ⟨g,i,none⟩=some (ptrV (X.ps.getD i (0,Go.undef)))/\S.files.length<=9223372036854775807:=by
 have J:i < X.ps.length:=by rw[h.flen];exact hi
 have C:=h.files;obtain⟨g,cap,H⟩:∃g cap,X.fv=.slice (some ⟨g,0,none⟩) S.files.length cap:=by
  rcases C.2 with ⟨_,Q⟩|⟨g,cap,cur,O,_⟩
  ·omega
  ·exact⟨g,cap,O⟩
 have I:S.files.length<=9223372036854775807:=by
  obtain⟨A,c,e,h1,h2,_⟩:=gz C;unfold maxLen at h2;omega
 rw[H]at C;have E:=C.cells (g:=g) rfl i (ptrV (X.ps.getD i (0,Go.undef))) (by simp[B_,J]);rw[wq4]at E;exact⟨g,cap,H,E,I⟩
theorem find_any (X:Dw) (S:Sd) (s:ByteArray) (hs:s.size<=maxLen) (w:World) (h:DK w X S) (hl:Sd.rq1 S.names S.files.length):
  Calls prog 145 #[.pointer (some ⟨X.d,0,none⟩),.string s] w fun e w'=>e=.returned (match S.names.get s.data.toList with
   |none=>.pointer none
   |some i=>ptrV (X.ps.getD i (0,Go.undef)))/\w=w':=by
 have H:=h.box;have d2:=H.cell 2;have d1:=H.cell 1;simp only[Dw.cells,gE0,gE1]at d1 d2;have I:=ik5 hs;have hn:=h.names;have C:=Nm.tj2 S.names s.data.toList
 cases J:S.names.get s.data.toList with
 |some i=>
  have hi:=hl _ (Nm.get_mem J);simp only at hi;obtain⟨g,cap,O,Q,a1⟩:=h.fileAt hi;have a4:(i:Int) < (S.files.length:Int):=o_
  rw[O]at d1;rw[J]at C;have U:=H_ C;have HA:=H_ (fun z=>Nm.nk4 S.names s.data.toList z J);clear C O J;go_enter func145,ntmps145;go_wp2_with (at_lookup;refine wpList_lookup_own_ok_int _ rfl _ _ 110 rfl 9 3 .i64 bz2 underlying110 underlying3 (xv2 _) X.nb _ _ rfl hn _ _ rfl I ?_;intro c E Z;rw[HA.out]at E;injection E with E;injection E with _ E;subst E;rw[U.out]);go_wp2;go_ret;exact⟨rfl,rfl⟩
 |none=>
  rw[J]at C;have U:=H_ C;clear C J;go_enter func145,ntmps145;go_wp2_with (at_lookup;refine wpList_lookup_own_ok_int _ rfl _ _ 110 rfl 9 3 .i64 bz2 underlying110 underlying3 (xv2 _) X.nb _ _ rfl hn _ _ rfl I ?_;intro c E Z;rw[U.out]);go_wp2;go_ret;exact⟨rfl,rfl⟩
def strs (ss:List ByteArray):List Value:=ss.map Value.string
theorem strs_get (C:List ByteArray) (k:Nat):(strs C)[k]?=(C[k]?).map Value.string:=by simp[strs]
theorem Row.st {B n:Nat} {w:World} {A:Option Addr} {C:List ByteArray} (h:Row B w A n 1 (strs C)) {k:Nat} (I:k < n):∃a,∃H:k < C.length,A=some a/\a.block < B/\w.cell? (a.add k)=some (.string C[k]):=by
 obtain⟨a,v,e,J,E,O⟩:=h.at1 I;have H:k < C.length:=by
  have:=h.len;simp[strs]at this;omega
 rw[strs_get,h_ H]at E;injection E with E;subst E;exact⟨a,H,e,J,O⟩
theorem tz4 (g:Nat) (j:Nat) (c:Int) (w:World) (h:w.cell? ⟨g,j,none⟩=some (.int .i64 c)) (E:w.frozen? ⟨g,j,none⟩=false):
  Calls prog 137 #[.pointer (some ⟨g,j,none⟩),.int .i64 1] w fun e w'=>∃v,e=.returned v/\w'=w.setCell ⟨g,j,none⟩ (.int .i64 (wrap64 (c+1))):=by
 have C:=run_call_add (P:=prog) func204 (by kernel_rfl) (by kernel_rfl) (by kernel_rfl) .i64 (by kernel_rfl) (y:=1) (s:=wrap64 (c+1)) h E (by simp[go_sem,IntKind.wrap_i64,wrap64]);go_enter func137,ntmps137;go_wp2;go_ret;exact⟨_,rfl,rfl⟩
def texts (ss:List ByteArray):List (List UInt8):=ss.map fun s=>s.data.toList
theorem ek4 {C:List ByteArray} {k:Nat} (h:k < C.length):(texts (C.take (k+1))).all Sd.named=((texts (C.take k)).all Sd.named&&Sd.named (C[k]).data.toList):=by
 unfold texts;rw[r_ h,am_,bj_];simp
theorem jq5 {C:List ByteArray} {k:Nat} (h:k < C.length) (E:Sd.named (C[k]).data.toList=false):(texts C).all Sd.named=false:=by
 rw[List.all_eq_false];exact⟨_,W_.2 ⟨C[k],u_ h,rfl⟩,by simp[E]⟩
theorem yv2 (X:Dw) (S:Sd) (A:Option Addr) (n c:Nat) (ss:List ByteArray) (hn:n<=1000) (b6:∀s∈ss,s.size<=maxLen) (f5:S.stop<=9223372036854775807) (f9:S.fail<=9223372036854775807) (w:World) (h:DK w X S) (hr:Row w.heap.size w A n 1 (strs ss)):
  Calls prog 144 #[.pointer (some ⟨X.d,0,none⟩),.slice A n c] w fun e w'=>e=.returned (.int .i64 ((S.call (texts ss)).2:Int))/\DK w' X (S.call (texts ss)).1/\Chg [X.d] w w':=by
 have a5:=h.box;have d0:=H_ b6;clear b6;have b7:ss.length=n:=by simpa [strs] using hr.len
 obtain⟨S',b3⟩:=n_ ((S.call (texts ss)).1);obtain⟨er,b5⟩:=n_ ((S.call (texts ss)).2);rw[<-b3,<-b5];have HS:=H_ b3;have HE:=H_ b5;clear b3 b5;have d3:=H_ b7;clear b7;go_enter func144,ntmps144;go_wp2
 go_loop [9] (fun i=>∃k:Nat,k<=n/\i=.int .i64 (k:Int)/\Hid ((texts (ss.take k)).all Sd.named=true)) (fun i=>n - (intOf i).toNat)
 case atStart=>exact⟨0,w_ _,rfl,rfl⟩
 case round=>
  obtain⟨k,hk,rfl,HA⟩:=hrel
  by_cases d4:k < n
  ·obtain⟨a,hl,rfl,_,f'⟩:=hr.st d4
   have b9:=d0.out ss[k] (u_ hl);have HT:=ek4 hl;have HF:=@jq5 ss k hl;generalize ss[k]=s at *;go_wp2_with fail
   cases a7:Sd.named s.data.toList with
   |true=>
    have e0:Hid ((texts (ss.take (k+1))).all Sd.named=true):=by
     have h1:=HA.out;show _=true
     rw[HT,h1,a7];rfl
    clear HT HF;refine(kw2 s b9 w).mono ?_;rintro e w1 ⟨rfl,rfl⟩;rw[a7];clear a7;go_wp2
    go_round
    case rel=>exact⟨k+1,o_,by go_num,e0⟩
    case measure=>simp[intOf];omega
   |false=>
    have a':=HF a7;have e1:er=10:=by rw[show er=_ from HE.out];simp[Sd.call,a']
    have Z:S'=S:=by rw[show S'=_ from HS.out];simp[Sd.call,a']
    clear HT HF a';subst e1 Z;refine(kw2 s b9 w).mono ?_;rintro e w1 ⟨rfl,rfl⟩;rw[a7];clear a7;go_wp2;go_ret;exact⟨rfl,h,Chg.refl _ _⟩
  ·have H:(texts ss).all Sd.named=true:=by
    have h1:=HA.out;have h2:=d3.out
    rwa [g_ o_]at h1
   go_wp2_with fail;refine(tz4 X.d 5 S.calls w (by rw[a5.cell 5];rfl) (a5.free 5)).mono ?_;rintro e w1 ⟨v,rfl,rfl⟩;have E:=a5.store 5 (.int .i64 (wrap64 (S.calls+1)));have O:=xw w ⟨X.d,5,none⟩ (.int .i64 (wrap64 (S.calls+1)));generalize hV:w.setCell ⟨X.d,5,none⟩ (.int .i64 (wrap64 (S.calls+1)))=V at *;clear hV a5;have d7:=E.cell 7;have d8:=E.cell 8;have d6:=E.cell 6;have f6:=E.free 6;have f7:=E.free 7;have f8:=E.free 8;simp only[Dw.cells,gE0,gE1,aD_,aJ_]at d6 d7 d8;have J:=vq2 X.d S.dead V (by rw[E.cell 6];rfl);have key:=fun(S2:Sd) (w2:World) (hc:Chg [X.d] V w2) (hb:BoxO w2 114 X.d (X.cells S2)) (e1:S2.names=S.names) (Z:S2.lasted=S.lasted) (e3:S2.files=S.files) (e4:S2.turns=S.turns)=>(⟨h.ex6 (O.trans hc (fun g hg=>.inl hg)) hb e1 Z e3 e4,O.trans hc (fun g hg=>.inl hg)⟩:DK w2 X S2/\Chg [X.d] w w2);have hX:∀b:Bool,(texts ss).all Sd.named=false->b=false:=fun _ h=>by rw[H]at h;cases h
   clear hX
   cases a8:S.dead with
   |true=>
    rw[a8]at J;have e1:er=50:=by rw[show er=_ from HE.out];simp[Sd.call,H,a8]
    have Z:S'={ S with calls:=wrap64 (S.calls+1) }:=by rw[show S'=_ from HS.out];simp[Sd.call,H,a8]
    have Q:=key S' V (Chg.refl _ _) (by rw[Z];exact E) (by rw[Z]) (by rw[Z]) (by rw[Z]) (by rw[Z]);have HK:=H_ Q;clear Z Q key H a8 h O;subst e1;go_wp2_with fail;refine J.mono ?_;rintro e w1 ⟨rfl,rfl⟩;go_wp2;go_ret;exact⟨rfl,HK.out⟩
   |false=>
    rw[a8]at J;obtain⟨q,fs,nm,la,tu,ca,de,st,fa⟩:=S;simp only at *;subst a8;have C:=fun(a:Sd×Nat) (hh:Sd.call ⟨q,fs,nm,la,tu,ca,false,st,fa⟩ (texts ss)=a)=>(⟨HS.out.trans (congrArg Prod.fst hh),HE.out.trans (congrArg Prod.snd hh)⟩:S'=a.1/\er=a.2)
    rcases ah_ 0 st with s0|s0
    ·rcases ah_ 1 st with s1|s1
     ·have t1:((st:Int) - 1==0)=false:=by simp;omega
      rcases ah_ 0 fa with a0|a0
      ·rcases ah_ 1 fa with a1|a1
       ·have t2:((fa:Int) - 1==0)=false:=by simp;omega
        obtain⟨I,U⟩:=C (⟨q,fs,nm,la,tu,wrap64 (ca+1),false,st - 1,fa - 1⟩,0) (by simp[Sd.call,H,show ¬(st - 1=0) by omega,s0,show ¬(fa - 1=0) by omega,a0]);have e1:((st - 1:Nat):Int)=(st:Int) - 1:=o_
        have Z:((fa - 1:Nat):Int)=(fa:Int) - 1:=o_
        have Q:=key S' (((V.setCell ⟨X.d,7,none⟩ (.int .i64 ((st:Int) - 1))).setCell ⟨X.d,6,none⟩ (.bool false)).setCell ⟨X.d,8,none⟩ (.int .i64 ((fa:Int) - 1))) ((((Chg.refl _ _).setCell _ (.inl s_)).setCell _ (.inl s_)).setCell _ (.inl s_)) (by
         rw[I,Dw.cells];simp only[e1,Z];exact(((E.store 7 (.int .i64 ((st:Int) - 1))).store 6 (.bool false)).store 8 (.int .i64 ((fa:Int) - 1)))) (by rw[I]) (by rw[I]) (by rw[I]) (by rw[I])
        have HK:=H_ Q;simp only at U;clear I Q key H h O C e1 Z;subst U;go_wp2_with fail;refine J.mono ?_;rintro e w1 ⟨rfl,rfl⟩;go_wp2;go_ret;exact⟨rfl,HK.out⟩
       ·obtain rfl:fa=1:=o_
        obtain⟨I,U⟩:=C (⟨q,fs,nm,la,tu,wrap64 (ca+1),false,st - 1,0⟩,15) (by simp[Sd.call,H,show ¬(st - 1=0) by omega,s0]);have e1:((st - 1:Nat):Int)=(st:Int) - 1:=o_
        have Q:=key S' (((V.setCell ⟨X.d,7,none⟩ (.int .i64 ((st:Int) - 1))).setCell ⟨X.d,6,none⟩ (.bool false)).setCell ⟨X.d,8,none⟩ (.int .i64 0)) ((((Chg.refl _ _).setCell _ (.inl s_)).setCell _ (.inl s_)).setCell _ (.inl s_)) (by
         rw[I,Dw.cells];simp only[e1];exact(((E.store 7 (.int .i64 ((st:Int) - 1))).store 6 (.bool false)).store 8 (.int .i64 0))) (by rw[I]) (by rw[I]) (by rw[I]) (by rw[I])
        have HK:=H_ Q;simp only at U;clear I Q key H h O C e1;subst U;go_wp2_with fail;refine J.mono ?_;rintro e w1 ⟨rfl,rfl⟩;go_wp2;go_ret;exact⟨rfl,HK.out⟩
      ·obtain rfl:fa=0:=o_
       obtain⟨I,U⟩:=C (⟨q,fs,nm,la,tu,wrap64 (ca+1),false,st - 1,0⟩,0) (by simp[Sd.call,H,show ¬(st - 1=0) by omega,s0]);have e1:((st - 1:Nat):Int)=(st:Int) - 1:=o_
       have Q:=key S' ((V.setCell ⟨X.d,7,none⟩ (.int .i64 ((st:Int) - 1))).setCell ⟨X.d,6,none⟩ (.bool false)) (((Chg.refl _ _).setCell _ (.inl s_)).setCell _ (.inl s_)) (by
        rw[I,Dw.cells];simp only[e1];exact((E.store 7 (.int .i64 ((st:Int) - 1))).store 6 (.bool false))) (by rw[I]) (by rw[I]) (by rw[I]) (by rw[I])
       have HK:=H_ Q;simp only at U;clear I Q key H h O C e1;subst U;go_wp2_with fail;refine J.mono ?_;rintro e w1 ⟨rfl,rfl⟩;go_wp2;go_ret;exact⟨rfl,HK.out⟩
     ·obtain rfl:st=1:=o_
      rcases ah_ 0 fa with a0|a0
      ·rcases ah_ 1 fa with a1|a1
       ·have t2:((fa:Int) - 1==0)=false:=by simp;omega
        obtain⟨I,U⟩:=C (⟨q,fs,nm,la,tu,wrap64 (ca+1),true,0,fa - 1⟩,0) (by simp[Sd.call,H,show ¬(fa - 1=0) by omega,a0]);have Z:((fa - 1:Nat):Int)=(fa:Int) - 1:=o_
        have Q:=key S' (((V.setCell ⟨X.d,7,none⟩ (.int .i64 0)).setCell ⟨X.d,6,none⟩ (.bool true)).setCell ⟨X.d,8,none⟩ (.int .i64 ((fa:Int) - 1))) ((((Chg.refl _ _).setCell _ (.inl s_)).setCell _ (.inl s_)).setCell _ (.inl s_)) (by
         rw[I,Dw.cells];simp only[Z];exact(((E.store 7 (.int .i64 0)).store 6 (.bool true)).store 8 (.int .i64 ((fa:Int) - 1)))) (by rw[I]) (by rw[I]) (by rw[I]) (by rw[I])
        have HK:=H_ Q;simp only at U;clear I Q key H h O C Z;subst U;go_wp2_with fail;refine J.mono ?_;rintro e w1 ⟨rfl,rfl⟩;go_wp2;go_ret;exact⟨rfl,HK.out⟩
       ·obtain rfl:fa=1:=o_
        obtain⟨I,U⟩:=C (⟨q,fs,nm,la,tu,wrap64 (ca+1),true,0,0⟩,15) (by simp[Sd.call,H]);have Q:=key S' (((V.setCell ⟨X.d,7,none⟩ (.int .i64 0)).setCell ⟨X.d,6,none⟩ (.bool true)).setCell ⟨X.d,8,none⟩ (.int .i64 0)) ((((Chg.refl _ _).setCell _ (.inl s_)).setCell _ (.inl s_)).setCell _ (.inl s_)) (by
         rw[I,Dw.cells];exact(((E.store 7 (.int .i64 0)).store 6 (.bool true)).store 8 (.int .i64 0))) (by rw[I]) (by rw[I]) (by rw[I]) (by rw[I])
        have HK:=H_ Q;simp only at U;clear I Q key H h O C;subst U;go_wp2_with fail;refine J.mono ?_;rintro e w1 ⟨rfl,rfl⟩;go_wp2;go_ret;exact⟨rfl,HK.out⟩
      ·obtain rfl:fa=0:=o_
       obtain⟨I,U⟩:=C (⟨q,fs,nm,la,tu,wrap64 (ca+1),true,0,0⟩,0) (by simp[Sd.call,H]);have Q:=key S' ((V.setCell ⟨X.d,7,none⟩ (.int .i64 0)).setCell ⟨X.d,6,none⟩ (.bool true)) (((Chg.refl _ _).setCell _ (.inl s_)).setCell _ (.inl s_)) (by
        rw[I,Dw.cells];exact((E.store 7 (.int .i64 0)).store 6 (.bool true))) (by rw[I]) (by rw[I]) (by rw[I]) (by rw[I])
       have HK:=H_ Q;simp only at U;clear I Q key H h O C;subst U;go_wp2_with fail;refine J.mono ?_;rintro e w1 ⟨rfl,rfl⟩;go_wp2;go_ret;exact⟨rfl,HK.out⟩
    ·obtain rfl:st=0:=o_
     rcases ah_ 0 fa with a0|a0
     ·rcases ah_ 1 fa with a1|a1
      ·have t2:((fa:Int) - 1==0)=false:=by simp;omega
       obtain⟨I,U⟩:=C (⟨q,fs,nm,la,tu,wrap64 (ca+1),false,0,fa - 1⟩,0) (by simp[Sd.call,H,show ¬(fa - 1=0) by omega,a0]);have Z:((fa - 1:Nat):Int)=(fa:Int) - 1:=o_
       have Q:=key S' (V.setCell ⟨X.d,8,none⟩ (.int .i64 ((fa:Int) - 1))) ((Chg.refl _ _).setCell _ (.inl s_)) (by
        rw[I,Dw.cells];simp only[Z];exact(E.store 8 (.int .i64 ((fa:Int) - 1)))) (by rw[I]) (by rw[I]) (by rw[I]) (by rw[I])
       have HK:=H_ Q;simp only at U;clear I Q key H h O C Z;subst U;go_wp2_with fail;refine J.mono ?_;rintro e w1 ⟨rfl,rfl⟩;go_wp2;go_ret;exact⟨rfl,HK.out⟩
      ·obtain rfl:fa=1:=o_
       obtain⟨I,U⟩:=C (⟨q,fs,nm,la,tu,wrap64 (ca+1),false,0,0⟩,15) (by simp[Sd.call,H]);have Q:=key S' (V.setCell ⟨X.d,8,none⟩ (.int .i64 0)) ((Chg.refl _ _).setCell _ (.inl s_)) (by
        rw[I,Dw.cells];exact(E.store 8 (.int .i64 0))) (by rw[I]) (by rw[I]) (by rw[I]) (by rw[I])
       have HK:=H_ Q;simp only at U;clear I Q key H h O C;subst U;go_wp2_with fail;refine J.mono ?_;rintro e w1 ⟨rfl,rfl⟩;go_wp2;go_ret;exact⟨rfl,HK.out⟩
     ·obtain rfl:fa=0:=o_
      obtain⟨I,U⟩:=C (⟨q,fs,nm,la,tu,wrap64 (ca+1),false,0,0⟩,0) (by simp[Sd.call,H]);have Q:=key S' V (Chg.refl _ _) (by
       rw[I,Dw.cells];exact E) (by rw[I]) (by rw[I]) (by rw[I]) (by rw[I])
      have HK:=H_ Q;simp only at U;clear I Q key H h O C;subst U;go_wp2_with fail;refine J.mono ?_;rintro e w1 ⟨rfl,rfl⟩;go_wp2;go_ret;exact⟨rfl,HK.out⟩
def sumL (f:DataW Unit->Nat) (left:Lit->Bool) (es:List (Lit×DataW Unit)):Nat:=((es.filter fun p=>!left p.1).map fun p=>f p.2).sum
theorem gy3 (f:DataW Unit->Nat) (left:Lit->Bool):∀(es:List (Lit×DataW Unit)),es.Pairwise (fun p q=>p.1≠q.1)->(∀p∈es,WideAt.IsKeyLit p.1)->∀C∈es,left C.1=true->sumL f (fun z=>left z&&!z.sameKey C.1) es=sumL f left es+f C.2
 |[],_,_,C,h,_=>by cases h
 |q::r,Q,I,C,h,J=>by
  obtain⟨h1,h2⟩:=U_.1 Q
  rcases f_.1 h with rfl|h
  ·have O:sumL f (fun z=>left z&&!z.sameKey C.1) r=sumL f left r:=by
    unfold sumL
    congr 2
    apply List.filter_congr;intro x U;have e:=Maps.sameKey_ne (h1 x U).symm;simp[e]
   have Z:=WideAt.sameKey_self (I C s_);have e3:sumL f (fun z=>left z&&!z.sameKey C.1) (C::r)=f C.2+sumL f (fun z=>left z&&!z.sameKey C.1) r:=by simp[sumL,Z]
   have e4:sumL f left (C::r)=sumL f left r:=by simp[sumL,J]
   omega
  ·have ih:=gy3 f left r h2 (fun p E=>I p (by simp[E])) C h J
   have O:q.1.sameKey C.1=false:=Maps.sameKey_ne (h1 C h);have e3:sumL f (fun z=>left z&&!z.sameKey C.1) (q::r)=(if left q.1=true then 0 else f q.2)+sumL f (fun z=>left z&&!z.sameKey C.1) r:=by
    cases H:left q.1<;>simp[sumL,O,H]
   have e4:sumL f left (q::r)=(if left q.1=true then 0 else f q.2)+sumL f left r:=by
    cases H:left q.1<;>simp[sumL,H]
   omega
theorem lw4 (f:DataW Unit->Nat) (left:Lit->Bool):∀es:List (Lit×DataW Unit),sumL f left es<=(es.map fun p=>f p.2).sum
 |[]=>by simp[sumL]
 |q::r=>by
  have H:=lw4 f left r;have C:sumL f left (q::r)=(if left q.1=true then 0 else f q.2)+sumL f left r:=by
   cases E:left q.1<;>simp[sumL,E]
  simp only[Z_,aI_];split at C<;>omega
theorem kw5 (f:DataW Unit->Nat) (left:Lit->Bool) (es:List (Lit×DataW Unit)) (h:∀k,left k=false):sumL f left es=(es.map fun p=>f p.2).sum:=by
 unfold sumL;rw[az_.2 (fun p _=>by simp[h])]
theorem ww4 (f:DataW Unit->Nat) (left:Lit->Bool) (es:List (Lit×DataW Unit)) (h:∀p∈es,left p.1=true):sumL f left es=0:=by
 unfold sumL;rw[aq_.2 (fun p C=>by simp[h p C])];rfl
def key (s:ByteArray):Lit:=.string s.data.toList
theorem iy1 {k:Value} {C:Lit} (h:keyOf prog 9 k=some C):∃s,k=.string s/\C=key s:=by
 obtain⟨s,E,H,_⟩:=Go.WideMaps.string_of_keyOf underlying9 h;exact⟨s,E,H⟩
def lenOf (fs:List (List UInt8×Nat)) (x:DataW Unit):Nat:=match x with
 |.lit (.int _ c)=>(fs.getD c.toNat ([],0)).1.length
 |_=>0
theorem uq5 (S:Sd):S.used=((S.names.map Nm.lit1).map fun p=>lenOf S.files p.2).sum:=by
 unfold Sd.used;rw[aK_];rfl
theorem dk5 (X:Dw) (S:Sd) (w:World) (h:DK w X S) (hl:Sd.rq1 S.names S.files.length) (hu:S.used<=1099511627776):
  Calls prog 203 #[.pointer (some ⟨X.d,0,none⟩)] w fun e w'=>e=.returned (.int .i64 (S.used:Int))/\Below w.heap.size w w':=by
 have a6:=h.box;have d2:=a6.cell 2;simp only[Dw.cells,gE0,gE1]at d2;have a2:=h.names;obtain⟨es,E,d9,a7⟩:=a2.entries bz2;have a4:es=S.names.map Nm.lit1:=by
  unfold Nm.enc at E;injection E with E;exact E.symm
 clear E;have I:S.used=(es.map fun p=>lenOf S.files p.2).sum:=by rw[a4,uq5]
 have a8:=H_ a4;obtain⟨U,hU⟩:=n_ S.used;rw[<-hU]at I hu ⊢;have a9:=H_ I;clear I a4 hU;obtain⟨M,hM⟩:=n_ (Nm.enc S.names);have a':w.ownsMap prog 9 (plainElem (H:=Unit) prog 3) X.nb S.names.length M:=by rw[hM];exact a2
 have HM:Hid (M=.map es):=by rw[hM,a8.out];exact rfl
 have b0:=H_ hM;clear hM a2;go_enter func203,ntmps203;go_wp2_with (first
  |(at_range;refine wpList_range_own _ rfl _ 110 rfl 9 3 bz2 underlying110 _ X.nb _ M rfl a' ?_;intro w0 b1 d' g7)
  |go_in)
 go_frame
 have e2:Below w.heap.size w w0:=b0_.grown d' l_ (fun k hk=>by cases hk)
 go_loopw [3] (fun s wr=>∃(left:Lit->Bool) (cnt:Nat),s=.int .i64 (sumL (lenOf S.files) left es:Int)/\wr.ranges prog 9 (plainElem (H:=Unit) prog 3) X.nb w.heap.size S.names.length M left cnt/\Below w.heap.size w wr) (fun _ wr=>wr.rangeLeft X.nb w.heap.size)
 case atStart=>
  refine⟨_,_,?_,b1,e2⟩;rw[ww4 _ _ _ (fun p hp=>by
   rw[HM.out,Maps.has_eq,ay_];exact⟨p,hp,WideAt.sameKey_self (a7 p hp)⟩)]
  rfl
 case round=>
  obtain⟨left,cnt,rfl,b2,hb⟩:=hrel;go_wp2_with (first
   |(at_next;refine wpList_next_ranges _ rfl _ rfl 9 bz2 _ Value.string (Value.int .i64) ?invK ?invV X.nb w.heap.size _ M left cnt rfl b2 ?hDone ?hMore)
   |go_in)
  case invK=>exact fun key kl hk=>by obtain⟨s,rfl,_⟩:=iy1 hk;exact⟨s,rfl⟩
  case invV=>exact fun v y hv=>by obtain⟨c,rfl,_⟩:=plainElem_int_inv underlying3 hv;exact⟨c,rfl⟩
  case hDone=>
   intro _ e5;rw[kw5 _ _ _ e5,<-show U=_ from a9.out];go_wp2;go_ret;exact⟨rfl,hb⟩
  case hMore=>
   intro x c kl y yp w1 b3 b5 b6 hv Z J e6 e7 g9 g';obtain⟨s,e9,b7⟩:=iy1 b5
   cases e9
   have b8:Below w.heap.size w w1:=hb.grown e7 hb.size (fun j hj=>by cases hj;exact y_ _);have a5:=h.below b8;have O:Maps.has M kl=true:=Maps.has_true_of_atKey Z;subst b7;unfold key at O Z b6 J;obtain⟨i,a0⟩:∃i,S.names.get x.data.toList=some i:=by
    rw[show M=_ from b0.out,Nm.tj2]at O;exact Option.isSome_iff_exists.1 O
   have hi:=hl _ (Nm.get_mem a0);simp only at hi;have b9:=fun z=>Nm.nk4 S.names x.data.toList z a0;have hy:y=.lit (.int .i64 (i:Int)):=by rw[<-Z .nil,show M=_ from b0.out,b9]
   obtain⟨c',e',c9,_⟩:=plainElem_int_inv underlying3 hv
   cases e'
   have f5:c=(i:Int):=by
    have h2:=congrArg Prod.fst c9;simp only at h2;rw[h2]at hy;injection hy with hy;injection hy with _ hy
   subst f5;have d0:Nm.lit1 (x.data.toList,i)∈es:=by
    rw[show es=_ from a8.out];exact W_.2 ⟨_,Nm.get_mem a0,rfl⟩
   have C:=gy3 (lenOf S.files) left es d9 a7 _ d0 b6;have f6:=lw4 (lenOf S.files) (fun z=>left z&&!z.sameKey (.string x.data.toList)) es;simp only[Nm.lit1]at C;have d1:i < X.ps.length:=by rw[h.flen];exact hi
   have f7:lenOf S.files (.lit (.int .i64 (i:Int)))=(S.files[i]).1.length:=by simp[lenOf,hi]
   rw[f7]at C;obtain⟨d3,d4⟩:=a5.file i hi d1;have e1:=a5.box.cell 1;simp only[Dw.cells,gE0,gE1]at e1;obtain⟨g,cap,d5,Q,g2⟩:=a5.fileAt hi;rw[d5]at e1;have a1:X.ps.getD i (0,Go.undef)=X.ps[i]:=by simp[B_,d1]
   rw[a1]at Q;unfold ptrV at Q;have e0:=d3.c0;obtain⟨fA,fc,d6,_,_,_⟩:=gz d4;rw[d6]at e0;have h6:(i:Int) < (S.files.length:Int):=o_
   have I:U=(es.map fun p=>lenOf S.files p.2).sum:=a9;have h7:sumL (lenOf S.files) left es+S.files[i].1.length<=1099511627776:=o_
   have f8:=H_ C;generalize (S.files[i]).1.length=F at *;generalize hS:sumL (lenOf S.files) left es=T at *;clear I C f6 Z b9 hv c9 d4 d3 a1 a0 d0 d5;go_wp2;go_roundw
   case rel=>exact⟨_,b3,by rw[f8.out];simp,J,b8⟩
   case measure=>rw[J.left_eq,b2.left_eq];exact e6
end
namespace Sd
variable {d:Sd}
theorem sw2 (d:Sd) (l:List (List UInt8)):(d.call l=(d,10)/\l.all named=false)\/∃I st fa E,d.call l=({ d with calls:=wrap64 (d.calls+1),dead:=I,stop:=st,fail:=fa },E)/\l.all named=true/\st<=d.stop/\fa<=d.fail/\(E=0\/E=15\/E=50):=by
 cases C:l.all named with
 |false=>exact .inl ⟨by simp[call,C],rfl⟩
 |true=>
  refine .inr ?_
  cases hd:d.dead with
  |true=>exact⟨true,d.stop,d.fail,50,by simp[call,C,hd],rfl,y_ _,y_ _,.inr (.inr rfl)⟩
  |false=>
   by_cases hs:0 < d.stop<;>by_cases H:0 < d.fail<;>by_cases h1:d.fail - 1=0
   all_goals first
    |exact⟨_,d.stop - 1,d.fail - 1,_,by simp only[call,C,hd,hs,H,h1,if_true,if_false];rfl,rfl,o_,o_,by simp⟩
    |exact⟨_,d.stop - 1,d.fail,_,by simp only[call,C,hd,hs,H,h1,if_true,if_false];rfl,rfl,o_,o_,by simp⟩
    |exact⟨_,d.stop,d.fail - 1,_,by simp only[call,C,hd,hs,H,h1,if_true,if_false];rfl,rfl,o_,o_,by simp⟩
    |exact⟨_,d.stop,d.fail,_,by simp only[call,C,hd,hs,H,h1,if_true,if_false];rfl,rfl,o_,o_,by simp⟩
theorem nz (d:Sd) (l:List (List UInt8)):(d.call l).1.names=d.names/\(d.call l).1.lasted=d.lasted/\(d.call l).1.files=d.files/\(d.call l).1.turns=d.turns/\(d.call l).1.quota=d.quota/\(d.call l).1.stop<=d.stop/\(d.call l).1.fail<=d.fail:=by
 rcases sw2 d l with ⟨h,_⟩|⟨C,st,fa,E,h,_,h1,h2,_⟩ <;>rw[h]
 ·exact⟨rfl,rfl,rfl,rfl,rfl,y_ _,y_ _⟩
 ·exact⟨rfl,rfl,rfl,rfl,rfl,h1,h2⟩
theorem Wf.call (h:d.Wf) (l:List (List UInt8)):(d.call l).1.Wf:=by
 obtain⟨C,H,E,I,J,e6,e7⟩:=nz d l;obtain⟨O,Q,a3,U,Z,a6,a7,a8,b1,b2,b3,a9,b6⟩:=h;exact⟨by rw[J];exact O,by rw[E];exact Q,by rw[C,E];exact a3,by rw[H,E];exact U,by rw[C];exact Z,by rw[H];exact a6,by rw[C];exact a7,by rw[E,I];exact a8,by rw[C];exact b1,by rw[H];exact b2,by rw[I];exact b3,o_,o_⟩
theorem bv1 (d:Sd) (l:List (List UInt8)):(d.call l).1.load=d.load:=by
 obtain⟨H,I,C,E,J,_⟩:=nz d l;simp[load,C,E]
theorem wv4 (d:Sd) (l:List (List UInt8)):(d.call l).1.used=d.used:=by
 obtain⟨C,H,E,I,J,_⟩:=nz d l;simp[used,size,C,E]
theorem size_le (h:d.Wf) (i:Nat):d.size i<=250000:=by
 unfold size
 by_cases hi:i < d.files.length
 ·have:=(h.file i hi).2
  simp[B_,hi];exact this
 ·simp[B_,Nat.le_of_not_lt hi]
theorem vj5 (h:d.Wf):d.used<=16000000:=by
 have C:=h.most;have hs:=size_le h;unfold used;have:∀m:Nm,(m.map fun p=>d.size p.2).sum<=m.length *250000:=by
  intro m
  induction m with
  |nil=>simp
  |cons p r E=>
   have:=hs p.2;simp only[Z_,aI_,q_];omega
 have:=this d.names;omega
theorem rq1.mono {m:Nm} {n k:Nat} (h:rq1 m n) (C:n<=k):rq1 m k:=fun p E=>N_ (h p E) C
theorem rq1.put {m:Nm} {n:Nat} (h:rq1 m n) (s:List UInt8) {i:Nat} (hi:i < n):rq1 (m.put s i) n:=by
 intro p C
 rcases Nm.xy.1 C with rfl|⟨C,_⟩
 ·exact hi
 ·exact h p C
theorem rq1.del {m:Nm} {n:Nat} (h:rq1 m n) (s:List UInt8):rq1 (m.del s) n:=fun p C=>h p (Nm.dv1.1 C).1
theorem rq1.go {m:Nm} {n:Nat} (h:rq1 m n) (t:Tn) (C:t.kind=1->t.file < n):rq1 (t.go m) n:=by
 unfold Tn.go;split
 ·exact h.put _ (C ‹_›)
 ·split
  ·split
   ·rename_i i E
    exact(h.put _ (h _ (Nm.get_mem E))).del _
   ·exact h
  ·split
   ·exact h.del _
   ·exact h
theorem ev5 {m:Nm} (h:Nm.Apart m) (t:Tn):Nm.Apart (t.go m):=by
 unfold Tn.go;split
 ·exact Nm.iw1 h _ _
 ·split
  ·split
   ·exact Nm.uj1 (Nm.iw1 h _ _) _
   ·exact h
  ·split
   ·exact Nm.uj1 h _
   ·exact h
theorem uq4 {m:Nm} (h:Nm.Apart m) (t:Tn) (E:t.kind≠1) (C:t.a≠t.b):(t.go m).length<=m.length:=by
 unfold Tn.go;rw[if_neg E];split
 ·split
  ·rename_i i H
   have h1:((m.put t.b i).get t.a)=some i:=by rw[Nm.kj1 h C];exact H
   have h2:=Nm.vj2 h1;have h3:=Nm.tj1 m t.b i;omega
  ·exact y_ _
 ·split
  ·exact Nm.tq1 _ _
  ·exact y_ _
theorem ux4 (q:Int) (h:q<=1099511627776):(new q).Wf:=
 ⟨by simp[new];omega,fun i h=>by simp[new]at h,fun p C=>(by cases C),fun p C=>(by cases C),aY_,aY_,by simp[new],fun t E=>(by cases E),fun p C=>(by cases C),fun p C=>(by cases C),fun t E=>(by cases E),by simp[new],by simp[new]⟩
theorem mk5 {s:List UInt8} (h:named s=true):s≠[]:=by
 intro e;subst e;simp[named]at h
theorem nq3 {l:List (List UInt8)} (h:(d.call l).2=0):l.all named=true:=by
 rcases sw2 d l with ⟨e,_⟩|⟨C,st,fa,E,_,h1,_⟩
 ·rw[e]at h;cases h
 ·exact h1
theorem Wf.create (h:d.Wf) (s:List UInt8):(d.create s).1.Wf:=by
 have E:=h.call [s];obtain⟨e1,H,e3,e4,J,e6,e7⟩:=nz d [s];unfold Sd.create
 dsimp only
 split
 ·exact E
 ·rename_i O
  have hs:named s=true:=by simpa using nq3 (Decidable.not_not.1 O)
  split
  ·exact E
  ·split
   ·exact E
   ·rename_i hn hm
    obtain⟨Q,U,a3,Z,a5,a6,a7,a8,b1,b2,b3,a9,b6⟩:=h;have hl:=Nm.tj1 d.names s d.files.length;refine⟨by rw[J];exact Q,fun i hi=>?_,?_,?_,Nm.iw1 a5 _ _,by rw[H];exact a6,by dsimp only;omega,?_,?_,by rw[H];exact b2,?_,by dsimp only;omega,by dsimp only;omega⟩
    ·dsimp only at hi ⊢
     rcases ah_ i d.files.length with h1|h1
     ·rw[aR_ h1];exact U i h1
     ·rw[bH_ h1]
      simp
    ·exact(a3.mono s_).put _ s_
    ·dsimp only
     rw[H];exact Z.mono s_
    ·intro t C
     simp only[k_,a_]at C
     rcases C with C|rfl
     ·have:=a8 t C
      simp only[d_,ad_];exact⟨o_,fun hk=>by have:=this.2 hk;omega⟩
     ·simp
    ·intro p I
     rcases Nm.xy.1 I with rfl|⟨I,_⟩
     ·exact hs
     ·exact b1 p I
    ·intro t C
     simp only[k_,a_]at C
     rcases C with C|rfl
     ·exact b3 t C
     ·exact⟨hs,fun e=>(by cases e),.inl rfl⟩
theorem Wf.jq2 (h:d.Wf) (i:Nat) (f:List UInt8×Nat) (h1:f.2<=f.1.length) (h2:f.1.length<=250000):({ d with files:=d.files.set i f }:Sd).Wf:=by
 obtain⟨E,H,a3,I,J,O,Q,U,b1,b2,Z,a9,C⟩:=h;refine⟨E,fun j hj=>?_,by simpa using a3,by simpa using I,J,O,Q,by simpa using U,b1,b2,Z,a9,C⟩;simp only[aE_]at hj;simp only[bJ_];split
 ·exact⟨h1,h2⟩
 ·exact H j hj
theorem cz3 (h:d.Wf) {i:Nat} (hi:i < d.files.length):(d.files.getD i ([],0)).2<=(d.files.getD i ([],0)).1.length/\(d.files.getD i ([],0)).1.length<=250000:=by
 have:=h.file i hi;simpa [B_,hi] using this
theorem Wf.append (h:d.Wf) (s b:List UInt8):(d.append s b).1.Wf:=by
 have C:=h.call [s];obtain⟨J,O,H,Q,U,Z,e7⟩:=nz d [s];unfold Sd.append
 dsimp only
 split
 ·exact C
 ·split
  ·exact C
  ·rename_i i I
   split
   ·exact C
   ·rename_i E
    split
    ·exact C
    ·have hi:=h.names _ (Nm.get_mem I)
     obtain⟨q1,q2⟩:(d.files.getD i ([],0)).2<=(d.files.getD i ([],0)).1.length/\(d.files.getD i ([],0)).1.length<=250000:=cz3 h hi;unfold Sd.size at E;have h2:=C.jq2 i ((d.files.getD i ([],0)).1++b,(d.files.getD i ([],0)).2) (by simp only[d_];omega) (by simp only[d_];omega)
     rwa [H]at h2
theorem Wf.sync (h:d.Wf) (s:List UInt8):(d.sync s).1.Wf:=by
 have C:=h.call [s];obtain⟨I,J,E,O,Q,U,Z⟩:=nz d [s];unfold Sd.sync
 dsimp only
 split
 ·exact C
 ·split
  ·exact C
  ·rename_i i H
   have hi:i < d.files.length:=h.names _ (Nm.get_mem H);have:=cz3 h hi;have h2:=C.jq2 i ((d.files.getD i ([],0)).1,d.size i) (by simp[Sd.size]) this.2
   rwa [E]at h2
theorem ew5 {m:Nm} (h:∀p∈m,named p.1=true) (t:Tn) (E:named t.a=true/\(t.kind=2->named t.b=true)):∀p∈t.go m,named p.1=true:=by
 intro p C;unfold Tn.go at C;split at C
 ·rcases Nm.xy.1 C with rfl|⟨C,_⟩
  ·exact E.1
  ·exact h p C
 ·split at C
  ·split at C
   ·rcases Nm.xy.1 (Nm.dv1.1 C).1 with rfl|⟨C,_⟩
    ·exact E.2 ‹_›
    ·exact h p C
   ·exact h p C
  ·split at C
   ·exact h p (Nm.dv1.1 C).1
   ·exact h p C
theorem Wf.pw1 (h:d.Wf) (t:Tn) (E:t.kind≠1) (Q:t.file=0) (H:t.a≠t.b) (I:named t.a=true/\(t.kind=2->named t.b=true)/\(t.kind=1\/t.kind=2\/t.kind=3)):({ d with names:=t.go d.names,turns:=d.turns++[t] }:Sd).Wf:=by
 obtain⟨U,Z,a3,a4,O,a6,a7,a8,b1,b2,b3,a9,J⟩:=h;refine⟨U,Z,a3.go t (fun e=>absurd e E),a4,ev5 O t,a6,j_ (uq4 O t E H) a7,fun u C=>?_,ew5 b1 t ⟨I.1,I.2.1⟩,b2,fun u C=>?_,a9,J⟩
 ·simp only[k_,a_]at C
  rcases C with C|rfl
  ·exact a8 u C
  ·exact⟨by rw[Q];exact w_ _,fun e=>absurd e E⟩
 ·simp only[k_,a_]at C
  rcases C with C|rfl
  ·exact b3 u C
  ·exact I
theorem Wf.rename (h:d.Wf) (a b:List UInt8):(d.rename a b).1.Wf:=by
 have C:=h.call [a,b];obtain⟨H,O,Q,I,U,Z,e7⟩:=nz d [a,b];unfold Sd.rename
 dsimp only
 split
 ·exact C
 ·rename_i J
  have hs:named a=true/\named b=true:=by simpa using nq3 (Decidable.not_not.1 J)
  split
  ·exact C
  ·split
   ·exact C
   ·rename_i E
    have h2:=C.pw1 ⟨2,0,a,b⟩ s_ rfl E ⟨hs.1,fun _=>hs.2,.inr (.inl rfl)⟩
    rwa [H,I]at h2
theorem Wf.remove (h:d.Wf) (s:List UInt8):(d.remove s).1.Wf:=by
 have C:=h.call [s];obtain⟨E,J,O,H,Q,U,Z⟩:=nz d [s];unfold Sd.remove
 dsimp only
 split
 ·exact C
 ·rename_i I
  split
  ·exact C
  ·have hs:named s=true:=by simpa using nq3 (Decidable.not_not.1 I)
   have h2:=C.pw1 ⟨3,0,s,[]⟩ s_ rfl (mk5 hs) ⟨hs,fun e=>(by cases e),.inr (.inr rfl)⟩
   rwa [E,H]at h2
theorem Wf.ax (h:d.Wf):(d.ax).1.Wf:=by
 have J:=h.call [];obtain⟨C,e2,e3,e4,e5,e6,e7⟩:=nz d [];unfold Sd.ax
 dsimp only
 split
 ·exact J
 ·obtain⟨O,Q,a3,a4,E,a6,U,a8,b1,b2,b3,Z,H⟩:=J
  rw[C]at a3 E;rw[C]at b1;exact⟨O,Q,by rw[C];exact a3,a3,by rw[C];exact E,E,U,fun t I=>(by cases I),by rw[C];exact b1,b1,fun t I=>(by cases I),Z,H⟩
end Sd
section
open Go.Maps
def fz4 (t:Tn):Value:=.agg #[.int .i64 (t.kind:Int),.int .i64 (t.file:Int),.string (str t.a),.string (str t.b)]
theorem pj5 (k f:Nat) (a b:List UInt8) (ha:a.length<=maxLen) (U:b.length<=maxLen) (hf:f<=9223372036854775807) (nb n:Nat) (M:Nm) (w:World) (h:cj1 w nb n M) (hn:n < maxLen) (hk:k=1\/k=2\/k=3):
  Calls prog 146 #[fz4 ⟨k,f,a,b⟩,.map (some nb)] w fun e w'=>e=.returned (.tuple #[])/\cj1 w' nb (n+1) (Tn.go ⟨k,f,a,b⟩ M)/\Chg [nb] w w':=by
 have O:keyOf prog 9 (.string (str a))=some (.string a):=by rw[ik5 (by rw[ny];exact ha),oz]
 have a5:keyOf prog 9 (.string (str b))=some (.string b):=by rw[ik5 (by rw[ny];exact U),oz]
 have b3:=h.lt;unfold fz4;simp only
 rcases hk with rfl|rfl|rfl
 ·have H:Tn.go ⟨1,f,a,b⟩ M=M.put a f:=rfl
  rw[H];have a6:(Lit.int .i64 (f:Int)).wf=true:=WalkArith.wf_i64 o_;have HP:=H_ (Nm.lx3 M a f);go_enter func146,ntmps146;go_wp2_with (at_mapUpdate;refine wpList_mapUpdate_own _ rfl _ _ _ 110 rfl 9 3 bz2 underlying110 _ nb n _ rfl (h.alloc _) hn _ _ _ rfl rfl O _ [] (plainElem_int underlying3 a6) ?_;intro w1 C E);have hc:Chg [nb] w w1:=(Chg.refl [nb] w|>.alloc _).trans (Chg.qy (F:=[nb]) E (fun b U=>by cases U;simp)) (fun g J=>.inl J);rw[HP.out]at C;go_wp2;exact bodyPost_end (v:=.tuple #[]) (by simp[results,go_sem]) rfl ⟨rfl,C,hc⟩
 ·cases J:M.get a with
  |none=>
   have H:Tn.go ⟨2,f,a,b⟩ M=M:=by unfold Tn.go;simp[J]
   rw[H];have HH:Hid (Maps.has (Nm.enc M) (.string a)=false):=by
    have:=Nm.tj2 M a;rw[J]at this;exact this
   clear H J;go_enter func146,ntmps146;go_wp2_with (at_lookup;refine wpList_lookup_own_ok_int _ rfl _ _ 110 rfl 9 3 .i64 bz2 underlying110 underlying3 (xv2 _) nb _ _ rfl (h.alloc _) _ _ rfl O ?_;intro c I a4;rw[HH.out]);have hc:Chg [nb] w (w.alloc (.cells #[.int .i64 2,.int .i64 (f:Int),.string (str a),.string (str b)] 214)):=(Chg.refl [nb] w).alloc _;go_wp2;exact bodyPost_end (v:=.tuple #[]) (by simp[results,go_sem]) rfl ⟨rfl,(h.alloc _).mono o_,hc⟩
  |some i=>
   have H:Tn.go ⟨2,f,a,b⟩ M=(M.put b i).del a:=by unfold Tn.go;simp[J]
   rw[H];have HH:Hid (Maps.has (Nm.enc M) (.string a)=true):=by
    have:=Nm.tj2 M a;rw[J]at this;exact this
   have HA:=H_ (fun z=>Nm.nk4 M a z J);have HP:=H_ (Nm.lx3 M b i);have HD:=H_ (Nm.vy4 (M.put b i) a);clear H;go_enter func146,ntmps146;go_wp2_with (first
    |(at_lookup;refine wpList_lookup_own_ok_int _ rfl _ _ 110 rfl 9 3 .i64 bz2 underlying110 underlying3 (xv2 _) nb _ _ rfl (h.alloc _) _ _ rfl O ?_;intro c I a4;rw[HA.out]at I;injection I with I;injection I with _ I;subst I;rw[HH.out])
    |(at_mapUpdate;refine wpList_mapUpdate_own _ rfl _ _ _ 110 rfl 9 3 bz2 underlying110 _ nb n _ rfl (h.alloc _) hn _ _ _ rfl rfl a5 _ [] (plainElem_int underlying3 a4) ?_;intro w1 C E;have a':Chg [nb] w w1:=(Chg.refl [nb] w|>.alloc _).trans (Chg.qy (F:=[nb]) E (fun b U=>by cases U;simp)) (fun g J=>.inl J);have b6:w1.cell? ⟨w.heap.size,2,none⟩=some (.string (str a)):=(aH_ (E.block w.heap.size s_ (fun e=>by injection e with e;omega))).trans (by rw[World.cell?_alloc_at _ _ _ _ rfl];rfl))
    |(at_delete;refine wpList_delete_own _ rfl _ _ 110 9 rfl 3 bz2 underlying110 _ nb (n+1) _ rfl C _ _ rfl O ?_;intro w2 Q Z))
   have hc:Chg [nb] w w2:=a'.trans (Chg.qy (F:=[nb]) Z.grown (fun b U=>by cases U;simp)) (fun g J=>.inl J);rw[HP.out,HD.out]at Q;go_wp2;exact bodyPost_end (v:=.tuple #[]) (by simp[results,go_sem]) rfl ⟨rfl,Q,hc⟩
 ·have H:Tn.go ⟨3,f,a,b⟩ M=M.del a:=rfl
  rw[H];have HD:=H_ (Nm.vy4 M a);go_enter func146,ntmps146;go_wp2_with (at_delete;refine wpList_delete_own _ rfl _ _ 110 9 rfl 3 bz2 underlying110 _ nb n _ rfl (h.alloc _) _ _ rfl O ?_;intro w1 C a0);have hc:Chg [nb] w w1:=(Chg.refl [nb] w|>.alloc _).trans (Chg.qy (F:=[nb]) a0.grown (fun b U=>by cases U;simp)) (fun g J=>.inl J);rw[HD.out]at C;go_wp2;exact bodyPost_end (v:=.tuple #[]) (by simp[results,go_sem]) rfl ⟨rfl,C.mono o_,hc⟩
theorem jk5 (X:Dw) (S:Sd) (s:ByteArray) (hs:s.size<=maxLen) (C:S.Wf) (w:World) (h:DK w X S):
  Calls prog 144 #[.pointer (some ⟨X.d,0,none⟩),.slice (some ⟨w.heap.size,0,none⟩) 1 1] (w.alloc (.cells #[.string s] 9)) fun e w'=>e=.returned (.int .i64 ((S.call [s.data.toList]).2:Int))/\DK w' X (S.call [s.data.toList]).1/\Chg [X.d] w w':=by
 have E:Below w.heap.size w (w.alloc (.cells #[.string s] 9)):=b_ _ _;refine(yv2 X S (some ⟨w.heap.size,0,none⟩) 1 1 [s] o_ (by simpa using hs) C.stop C.fail _ (h.below E) ?_).mono ?_
 ·exact(Row.new w #[.string s] 9 (n:=1) (size:=1) rfl).up s_
 ·rintro e w' ⟨rfl,h1,h2⟩
  exact⟨rfl,h1,(Chg.of_below E [X.d]).trans h2 (fun g H=>.inl H)⟩
theorem bv5 (X:Dw) (S:Sd) (s:ByteArray) (hs:s.size<=maxLen) (hw:S.Wf) (w:World) (h:DK w X S):
  Calls prog 109 #[.pointer (some ⟨X.d,0,none⟩),.string s] w fun e w'=>∃A c,e=.returned (.tuple #[.slice A (S.read s.data.toList).1.length c,.int .i64 ((S.read s.data.toList).2:Int)])/\
   w'.ownsRow w.heap.size 5 1 (.slice A (S.read s.data.toList).1.length c) (S.read s.data.toList).1.length (bts (S.read s.data.toList).1)/\Below w.heap.size w w':=by
 have nil:=fun W:World=>E_ W w.heap.size 5 1;have C:=kw2 s hs w;have H:=vq2 X.d S.dead w (by rw[h.box.cell 6];rfl);have E:=find_any X S s hs w h hw.names
 cases h1:Sd.named s.data.toList with
 |false=>
  have I:S.read s.data.toList=([],10):=by simp[Sd.read,h1]
  rw[I];rw[h1]at C;clear h1 I;go_enter func109,ntmps109;go_wp2_with fail;refine C.mono ?_;rintro e J ⟨rfl,rfl⟩;go_wp2;go_ret2;exact⟨_,_,rfl,nil w,Below.refl _ _⟩
 |true=>
  rw[h1]at C
  cases h2:S.dead with
  |true=>
   have I:S.read s.data.toList=([],50):=by simp[Sd.read,h1,h2]
   rw[I];rw[h2]at H;clear h1 h2 I;go_enter func109,ntmps109;go_wp2_with fail;refine C.mono ?_;rintro e J ⟨rfl,rfl⟩;go_wp2_with fail;refine H.mono ?_;rintro e J ⟨rfl,rfl⟩;go_wp2;go_ret2;exact⟨_,_,rfl,nil w,Below.refl _ _⟩
  |false=>
   rw[h2]at H
   cases h3:S.names.get s.data.toList with
   |none=>
    have I:S.read s.data.toList=([],11):=by simp[Sd.read,h1,h2,h3]
    rw[I];rw[h3]at E;clear h1 h2 h3 I;go_enter func109,ntmps109;go_wp2_with fail;refine C.mono ?_;rintro e J ⟨rfl,rfl⟩;go_wp2_with fail;refine H.mono ?_;rintro e J ⟨rfl,rfl⟩;go_wp2_with fail;refine E.mono ?_;rintro e J ⟨rfl,rfl⟩;go_wp2;go_ret2;exact⟨_,_,rfl,nil w,Below.refl _ _⟩
   |some i=>
    have hi:i < S.files.length:=hw.names _ (Nm.get_mem h3);have a0:i < X.ps.length:=by rw[h.flen];exact hi
    have I:S.read s.data.toList=(S.files[i].1,0):=by simp[Sd.read,h1,h2,h3,hi]
    rw[I];rw[h3]at E;have O:X.ps.getD i (0,Go.undef)=X.ps[i]:=by simp[B_,a0]
    simp only[O,ptrV]at E;obtain⟨a2,U⟩:=h.file i hi a0;have a9:=(hw.file i hi).2;generalize S.files[i]=f at *;generalize X.ps[i]=p at *;have e0:=a2.c0;obtain⟨fA,fc,Q,_,_,_⟩:=gz U;rw[Q]at e0 U;have hrow:=Row.own U;obtain⟨i0,a4,a5,a6,a7⟩:=info_parts fj1;clear h1 h2 h3 I O Q;go_enter func109,ntmps109;go_wp2_with fail;refine C.mono ?_;rintro e J ⟨rfl,rfl⟩;go_wp2_with fail;refine H.mono ?_;rintro e J ⟨rfl,rfl⟩;go_wp2_with fail;refine E.mono ?_;rintro e J ⟨rfl,rfl⟩;go_wp2_with fail;refine E.mono ?_;rintro e J ⟨rfl,rfl⟩;go_wp2_with (at_builtin;refine iy ?_);refine bz (vw rfl (.const (.slice none 0 0)) (.tmp 23) _ rfl w.heap.size 5 i0 _ 1 1 underlying150 a4 a5 a6 a7 rfl o_ w b0_ l_ rfl w.heap.size fA f.1.length fc (bts f.1) rfl hrow (av1 _) (by unfold maxLen;omega) o_ ?_);intro A2 c2 w2 Z a8 _ _ _;go_wp2;go_ret2;exact⟨_,_,rfl,Z,a8⟩
theorem Upd.after {X:Dw} {w E H:World} {S2:Sd} (h1:Chg [X.d] w E) (h2:Upd X E H S2):Upd X w H S2:=by
 obtain⟨X',e,h,c,I⟩:=h2;refine⟨X',e,h,(h1.mono (fun g C=>.inl ?_)).trans c (fun g C=>.inl C),fun g C=>?_⟩
 ·rw[a_.1 C]
  exact aj.2 (.inl rfl)
 ·rcases I g C with h3|h3
  ·exact .inl h3
  ·exact .inr (j_ h1.size h3)
theorem Upd.called {X:Dw} {w C:World} {S1:Sd} (h:DK C X S1) (h1:Chg [X.d] w C):Upd X w C S1:=Upd.after h1 (Upd.same h (Chg.refl _ _))
theorem neq0 {n:Nat} (h:n≠0):(((n:Int) !=0))=true:=by simp[h]
theorem tk1 {X:Dw} {i:Nat} (hi:i < X.ps.length) {g:Nat} (C:g∈iw X.ps[i]):g∈X.foot:=aj.2 (.inr (.inr (.inr (.inr (.inr ⟨_,u_ hi,C⟩)))))
theorem uw3 {X:Dw} {i:Nat} (hi:i < X.ps.length) {v:Value} {n:Nat} (E:∀g,v.ownBlock=some g->(X.ps[i]).2.ownBlock=some g\/n<=g):∀g∈({ X with ps:=X.ps.set i ((X.ps[i]).1,v) }:Dw).foot,g∈X.foot\/n<=g:=by
 intro g H
 rcases aj.1 H with h|h|h|h|h|⟨p,I,C⟩
 ·exact .inl (aj.2 (.inl h))
 ·exact .inl (aj.2 (.inr (.inl h)))
 ·exact .inl (aj.2 (.inr (.inr (.inl h))))
 ·exact .inl (aj.2 (.inr (.inr (.inr (.inl h)))))
 ·exact .inl (aj.2 (.inr (.inr (.inr (.inr (.inl h))))))
 ·rcases List.mem_or_eq_of_mem_set I with h1|h1
  ·exact .inl (aj.2 (.inr (.inr (.inr (.inr (.inr ⟨p,h1,C⟩))))))
  ·subst h1
   simp only[iw,f_,a7_]at C
   rcases C with h2|h2
   ·exact .inl (tk1 hi (by simp[iw,h2]))
   ·rcases E g h2 with h3|h3
    ·exact .inl (tk1 hi (by simp[iw,h3]))
    ·exact .inr h3
theorem sync_any (X:Dw) (S:Sd) (s:ByteArray) (hs:s.size<=maxLen) (hw:S.Wf) (w:World) (h:DK w X S):
  Calls prog 142 #[.pointer (some ⟨X.d,0,none⟩),.string s] w fun e w'=>e=.returned (.int .i64 ((S.sync s.data.toList).2:Int))/\Upd X w w' (S.sync s.data.toList).1:=by
 have E:=jk5 X S s hs hw w h;have a4:=hw.call [s.data.toList];obtain⟨e1,e2,e3,e4,e5,_,_⟩:=Sd.nz S [s.data.toList];have C:S.sync s.data.toList=if (S.call [s.data.toList]).2≠0 then S.call [s.data.toList] else match S.names.get s.data.toList with
  |none=>((S.call [s.data.toList]).1,11)
  |some i=>({ (S.call [s.data.toList]).1 with files:=S.files.set i ((S.files.getD i ([],0)).1,S.size i) },0):=rfl
 generalize S.call [s.data.toList]=R at *;obtain⟨S1,er⟩:=R;simp only at *
 by_cases h0:er=0
 ·subst h0
  rw[if_neg s_]at C;have U:=fun H h1=>find_any X S1 s hs H h1 a4.names
  cases h3:S.names.get s.data.toList with
  |none=>
   simp only[h3]at C;rw[C];simp only[e1,h3]at U;clear C h3 e1 e2 e3 e4 e5 a4 hw h;go_enter func142,ntmps142;go_wp2_with fail;refine E.mono ?_;rintro e H ⟨rfl,h1,J⟩;go_wp2_with fail;refine(U H h1).mono ?_;rintro e w2 ⟨rfl,rfl⟩;go_wp2;go_ret;exact⟨rfl,Upd.called h1 J⟩
  |some i=>
   simp only[h3]at C;rw[C];simp only[e1,h3]at U;have hi:i < S1.files.length:=by rw[e3];exact hw.names _ (Nm.get_mem h3)
   have a6:S.size i=(S1.files[i]).1.length:=by simp[Sd.size,<-e3,B_,hi]
   have a7:(S.files.getD i ([],0)).1=(S1.files[i]).1:=by simp[<-e3,B_,hi]
   have b5:=(a4.file i hi).2;obtain⟨f,hf⟩:=n_ (S1.files[i]);rw[<-hf]at a6 a7 b5;have HE:Hid (({ S1 with files:=S.files.set i ((S.files.getD i ([],0)).1,S.size i) }:Sd)={ S1 with files:=S1.files.set i (f.1,f.1.length) }):=by
    rw[a6,a7,<-e3];exact rfl
   rw[HE.out];have HF:=H_ hf;clear hf C h3 e1 e2 e4 e5 e3 a6 a7 hw HE h;go_enter func142,ntmps142;go_wp2_with fail;refine E.mono ?_;rintro e H ⟨rfl,h1,J⟩;go_wp2_with fail;have I:i < X.ps.length:=by rw[h1.flen];exact hi
   have Z:X.ps.getD i (0,Go.undef)=X.ps[i]:=by simp[B_,I]
   refine(U H h1).mono ?_;rintro e w2 ⟨rfl,rfl⟩;rw[Z];have a8:az2 H X.ps[i] f:=by rw[show f=_ from HF.out];exact h1.file i hi I
   have O:=h1.apart.self _ (u_ I);have hv:=fun g (e:(X.ps[i]).2.ownBlock=some g)=>(.inl e:(X.ps[i]).2.ownBlock=some g\/H.heap.size<=g);have key:=fun(w2:World) (hf:az2 w2 ((X.ps[i]).1,(X.ps[i]).2) (f.1,f.1.length)) (c:Chg (iw X.ps[i]) H w2)=>DK.jq2 h1 I hf c hv;have b7:=uw3 I hv;have a0:=fun g hg=>tk1 (X:=X) (i:=i) I (g:=g) hg;generalize X.ps[i]=p at *;obtain⟨Q,a'⟩:=a8;have a1:=Q.store 1 (.int .i64 (f.1.length:Int));have b0:=xw H ⟨p.1,1,none⟩ (.int .i64 (f.1.length:Int));have hrow:=jy a' b0 (fun g e hg=>O (by rw[e];simpa using hg));have b1:Chg (iw p) H (H.setCell ⟨p.1,1,none⟩ (.int .i64 (f.1.length:Int))):=b0.mono (fun g hg=>.inl (by simpa [iw] using Or.inl hg));have b8:=key _ ⟨a1,hrow⟩ b1;have e0:=Q.c0;have e1:=Q.c1;have f1:=Q.free 1;obtain⟨fA,fc,a2,_,_,_⟩:=gz a';have b9:Upd X w (H.setCell ⟨p.1,1,none⟩ (.int .i64 (f.1.length:Int))) { S1 with files:=S1.files.set i (f.1,f.1.length) }:=Upd.after J ⟨{ X with ps:=X.ps.set i (p.1,p.2) },rfl,b8,b1.mono (fun g hg=>.inl (a0 g hg)),b7⟩;have HU:=H_ b9;rw[a2]at e0;clear b9 b8 b1 a1 b0 hrow key b7 hv O Z a2 a' Q a0;unfold ptrV;go_wp2;go_ret;exact⟨rfl,HU.out⟩
 ·have d8:=neq0 h0
  rw[if_pos h0]at C;rw[C];clear C e1 e2 e3 e4 e5 h0;go_enter func142,ntmps142;go_wp2_with fail;refine E.mono ?_;rintro e H ⟨rfl,h1,J⟩;go_wp2;go_ret;exact⟨rfl,Upd.called h1 J⟩
theorem DK.dq6 {w w':World} {X:Dw} {S S':Sd} (h:DK w X S) {b1 b2:Nat} (c:Chg [X.d] w w') (U:cj1 w' b1 S'.names.length S'.names) (Z:cj1 w' b2 S'.lasted.length S'.lasted)
  (h1:b1=X.nb\/b1=X.lb\/w.heap.size<=b1) (h2:w.heap.size<=b2) (a0:b1≠b2) (hb:BoxO w' 114 X.d (({ X with nb:=b1,lb:=b2,tv:=.slice none 0 0 }:Dw).cells S')) (e3:S'.files=S.files) (e4:S'.turns=[]):
  DK w' { X with nb:=b1,lb:=b2,tv:=.slice none 0 0 } S':=by
 have a:=h.apart;have hl:=h.lt;obtain⟨q,fs,nm,la,tu,ca,de,st,fa⟩:=S';simp only at e3 e4;subst e3 e4;refine⟨hb,U,Z,jy h.files c (fun g e=>by simpa using (a.fv g e).1),fun i hi h3=>(h.file i hi h3).chg c (fun g e=>by simpa using (a.ps _ (u_ h3) g e).1),?_,?_⟩
 ·simpa using E_ _ _ _ _
 ·have J:=h.nodup
  unfold Dw.foot at J ⊢;have O:(X.fv.ownBlock.toList++X.ps.flatMap iw).Nodup:=by
   refine List.Nodup.sublist ?_ J;refine cg_ ?_ (bo_ _ _);refine cg_ ?_ (bo_ _ _);refine cg_ ?_ (bo_ _ _);exact List.Sublist.append (List.Sublist.refl _) (bo_ _ _)
  have C:∀g∈X.fv.ownBlock.toList++X.ps.flatMap iw,g≠X.d/\g≠X.nb/\g≠X.lb/\g < w.heap.size:=fun g hg=>by
   rcases k_.1 hg with h3|h3
   ·have h4:X.fv.ownBlock=some g:=by simpa using h3
    exact⟨(a.fv g h4).1,(a.fv g h4).2.1,(a.fv g h4).2.2.1,hl g (aj.2 (.inr (.inr (.inr (.inl h4)))))⟩
   ·obtain⟨p,Q,H⟩:=ac_.1 h3
    exact⟨(a.ps p Q g H).1,(a.ps p Q g H).2.1,(a.ps p Q g H).2.2.1,hl g (aj.2 (.inr (.inr (.inr (.inr (.inr ⟨p,Q,H⟩))))))⟩
  have hd:=h.box.lt;have I:b1≠X.d:=by
   rcases h1 with h1|h1|h1
   ·rw[h1];exact a.d_nb.symm
   ·rw[h1];exact a.d_lb.symm
   ·omega
  have a1:(Value.slice none 0 0).ownBlock.toList=[]:=rfl;simp only[a1,C_,List.singleton_append];refine aW_.2 ⟨fun E=>?_,aW_.2 ⟨fun E=>?_,aW_.2 ⟨fun E=>?_,O⟩⟩⟩
  ·rcases f_.1 E with h3|E
   ·exact I h3.symm
   ·rcases f_.1 E with h3|E
    ·omega
    ·exact(C _ E).1 rfl
  ·rcases f_.1 E with h3|E
   ·exact a0 h3
   ·obtain⟨m1,m2,m3,m4⟩:=C _ E
    rcases h1 with h1|h1|h1
    ·exact m2 h1
    ·exact m3 h1
    ·omega
  ·have:=(C _ E).2.2.2
   omega
theorem ev2 (X:Dw) (S:Sd) (hw:S.Wf) (w:World) (h:DK w X S):
  Calls prog 143 #[.pointer (some ⟨X.d,0,none⟩)] w fun e w'=>e=.returned (.int .i64 ((S.ax).2:Int))/\Upd X w w' (S.ax).1:=by
 have C:=yv2 X S none 0 0 [] o_ s_ hw.stop hw.fail w h Row.nil_;have Q:texts []=[]:=rfl;rw[Q]at C;obtain⟨e1,e2,e3,e4,e5,_,_⟩:=Sd.nz S [];have E:S.ax=if (S.call []).2≠0 then S.call [] else ({ (S.call []).1 with lasted:=S.names,turns:=[] },0):=rfl
 generalize S.call []=R at *;obtain⟨S1,er⟩:=R;simp only at *
 by_cases h0:er=0
 ·subst h0
  rw[if_neg s_]at E;rw[E,<-e1];clear E e1 e2 e3 e4 e5 h Q;go_enter func143,ntmps143;go_wp2_with fail;refine C.mono ?_;rintro e J ⟨rfl,h1,O⟩;have d2:=h1.box.cell 2;simp only[Dw.cells,gE0,gE1]at d2;have a0:=AnyW.maps_Clone_owns clone212 9 (plainElem (H:=Unit) prog 3) X.nb _ _ J h1.names;go_wp2_with fail;refine a0.mono ?_;rintro e w2 ⟨rfl,a1,a2,U⟩;have h2:=h1.below U;have d3:=h2.box.cell 3;have d4:=h2.box.cell 4;have f3:=h2.box.free 3;have f4:=h2.box.free 4;simp only[Dw.cells,gE0,gE1]at d3 d4;have a4:=(h2.box.store 3 (.map (some J.heap.size))).store 4 (.slice none 0 0);have Z:Chg [X.d] J ((w2.setCell ⟨X.d,3,none⟩ (.map (some J.heap.size))).setCell ⟨X.d,4,none⟩ (.slice none 0 0)):=((Chg.of_below U [X.d]).setCell _ (.inl s_)).setCell _ (.inl s_);have I:Chg [X.d] w2 ((w2.setCell ⟨X.d,3,none⟩ (.map (some J.heap.size))).setCell ⟨X.d,4,none⟩ (.slice none 0 0)):=((Chg.refl [X.d] w2).setCell _ (.inl s_)).setCell _ (.inl s_);have b':=h1.box.lt;have b8:=h1.names.lt;have a5:=DK.dq6 (b1:=X.nb) (b2:=J.heap.size) (S':={ S1 with lasted:=S1.names,turns:=[] }) h1 Z (cq1 a2 I (by simpa using h1.apart.d_nb.symm)) (cq1 a1 I (by simp;omega)) (.inl rfl) l_ o_ a4 rfl rfl;have a6:Upd X w _ _:=Upd.after O ⟨{ X with nb:=X.nb,lb:=J.heap.size,tv:=.slice none 0 0 },rfl,a5,Z.mono (fun g hg=>.inl (by rw[a_.1 hg];exact aj.2 (.inl rfl))),fun g hg=>by
   rcases aj.1 hg with h5|h5|h5|h5|h5|h5
   ·exact .inl (aj.2 (.inl h5))
   ·exact .inl (aj.2 (.inr (.inl h5)))
   ·exact .inr (bA_ (show g=J.heap.size from h5).symm)
   ·exact .inl (aj.2 (.inr (.inr (.inr (.inl h5)))))
   ·cases h5
   ·exact .inl (aj.2 (.inr (.inr (.inr (.inr (.inr h5))))))⟩
  have HU:=H_ a6;clear a6 a5 Z I a4 a1 a2 U h2 h1 a0 O;go_wp2;go_ret;exact⟨rfl,HU.out⟩
 ·have c':=neq0 h0
  rw[if_pos h0]at E;rw[E];clear E e1 e2 e3 e4 e5 h0 Q;go_enter func143,ntmps143;go_wp2_with fail;refine C.mono ?_;rintro e J ⟨rfl,h1,O⟩;go_wp2;go_ret;exact⟨rfl,Upd.called h1 O⟩
theorem pq2 {w:World} {b:Nat} (C:w.heap[b]?=some (.map #[] 0)):cj1 w b 0 []:=by
 have h:=(World.ownsMap_made (H:=Unit) w prog 9 (plainElem (H:=Unit) prog 3));obtain⟨es,clock,h1,F,hs,E⟩:=h;rw[heap_alloc_new]at h1;injection h1 with h1;injection h1 with h1 h2;subst h1 h2;exact⟨#[],0,C,F,hs,E⟩
theorem dz5 (q:Int) (w:World):Calls prog 11 #[.int .i64 q] w fun e w'=>∃X:Dw,e=.returned (.pointer (some ⟨X.d,0,none⟩))/\DK w' X (Sd.new q)/\Below w.heap.size w w'/\∀g∈X.foot,w.heap.size<=g:=by
 have a0:=@run_makeMap prog;go_enter func11,ntmps11;go_wp2;generalize E:(Obj.cells #[.int .i64 (max q 0),.slice none 0 0,.map (some w.heap.size),.map (some (w.heap.size+1)),.slice none 0 0,.int .i64 0,.bool false,.int .i64 0,.int .i64 0] 114)=C;have H:((q.toNat:Nat):Int)=max q 0:=o_
 have I:((w.alloc (.map #[] 0)).alloc (.map #[] 0)).heap.size=w.heap.size+2:=by simp
 have J:cj1 (((w.alloc (.map #[] 0)).alloc (.map #[] 0)).alloc C) w.heap.size 0 []:=pq2 (by
  rw[Below.heap_alloc _ _ _ (by simp;omega),Below.heap_alloc _ _ _ s_];exact(MapKept.heap_alloc w _).1)
 have O:cj1 (((w.alloc (.map #[] 0)).alloc (.map #[] 0)).alloc C) (w.heap.size+1) 0 []:=pq2 (by
  rw[Below.heap_alloc _ _ _ s_];have:=(MapKept.heap_alloc (w.alloc (.map #[] 0)) (.map #[] 0)).1;simpa using this)
 have Q:BoxO (((w.alloc (.map #[] 0)).alloc (.map #[] 0)).alloc C) 114 (w.heap.size+2) (({ d:=w.heap.size+2,nb:=w.heap.size,lb:=w.heap.size+1,fv:=.slice none 0 0,tv:=.slice none 0 0,ps:=[] }:Dw).cells (Sd.new q)):=by
  have h1:=BoxO.new ((w.alloc (.map #[] 0)).alloc (.map #[] 0)) #[.int .i64 (max q 0),.slice none 0 0,.map (some w.heap.size),.map (some (w.heap.size+1)),.slice none 0 0,.int .i64 0,.bool false,.int .i64 0,.int .i64 0] 114;rw[E,I]at h1;unfold Dw.cells Sd.new;simp only[H];exact h1
 have hB:Below w.heap.size w (((w.alloc (.map #[] 0)).alloc (.map #[] 0)).alloc C):=((b_ _ _).alloc s_ _).alloc (by simp;omega) _;have U:∀g∈({ d:=w.heap.size+2,nb:=w.heap.size,lb:=w.heap.size+1,fv:=.slice none 0 0,tv:=.slice none 0 0,ps:=[] }:Dw).foot,w.heap.size<=g:=fun g hg=>by
  rcases aj.1 hg with h|h|h|h|h|⟨p,hp,_⟩
  ·simp only at h;omega
  ·simp only at h;omega
  ·simp only at h;omega
  ·simp[Value.ownBlock]at h
  ·simp[Value.ownBlock]at h
  ·cases hp
 have Z:DK (((w.alloc (.map #[] 0)).alloc (.map #[] 0)).alloc C) { d:=w.heap.size+2,nb:=w.heap.size,lb:=w.heap.size+1,fv:=.slice none 0 0,tv:=.slice none 0 0,ps:=[] } (Sd.new q):=
  ⟨Q,J,O,E_ _ _ _ _,fun i hi=>(by simp[Sd.new]at hi),E_ _ _ _ _,by simp[Dw.foot,Value.ownBlock]⟩
 go_ret;exact⟨_,rfl,Z,hB,U⟩
end
namespace Mn
theorem parse_append:∀(l r:List UInt8) (acc:Nat),parseUint10 acc (l++r)=match parseUint10 acc l with
  |.ok u=>parseUint10 u r
  |x=>x
 |[],r,acc=>by simp[parseUint10]
 |c::l,r,acc=>by
  simp only[T_,parseUint10];split
  ·split
   ·rfl
   ·split
    ·rfl
    ·exact parse_append l r _
  ·rfl
theorem lw1 (d:Nat) (h:d < 10):(UInt8.ofNat (48+d)).toNat=48+d:=by
 rw[UInt8.toNat_ofNat_of_lt'];show 48+d < 256
 omega
theorem fq3 (u:Nat) (h:u < 9223372036854775808):parseUint10 0 (decDigits u)=.ok u:=by
 induction u using Nat.strongRecOn with
 |_ u C=>
  rw[decDigits];split
  ·rename_i h1
   have e:=lw1 u h1;simp only[parseUint10,e];rw[if_pos o_,if_neg o_,if_neg o_]
   congr 1
   omega
  ·rename_i h1
   have e:=lw1 (u % 10) (bP_ _ o_);rw[parse_append,C (u / 10) o_ o_];simp only[parseUint10,e];rw[if_pos o_,if_neg o_,if_neg o_]
   congr 1
   omega
theorem my2 (u:Nat):∀c∈decDigits u,48<=c.toNat/\c.toNat<=57:=by
 induction u using Nat.strongRecOn with
 |_ u E=>
  rw[decDigits];split
  ·rename_i h1
   intro c C;rw[a_.1 C,lw1 u h1];omega
  ·intro c C
   rcases k_.1 C with C|C
   ·exact E (u / 10) o_ c C
   ·rw[a_.1 C,lw1 _ (bP_ _ o_)]
    omega
theorem sj2 (u:Nat):∀k,u < 10 ^ (k+1)->1<=(decDigits u).length/\(decDigits u).length<=k+1:=by
 induction u using Nat.strongRecOn with
 |_ u C=>
  intro k E;rw[decDigits];split
  ·simp
  ·rcases k with _|k
   ·omega
   ·have:=C (u / 10) o_ k (by
     have h2:10 ^ (k+1+1)=10 ^ (k+1)*10:=Nat.pow_succ 10 (k+1);omega)
    simp only[d_,ad_];omega
theorem kx3 (u:Nat) (h:u < 9223372036854775808):atoiAll (decDigits u)=.ok (u:Int):=by
 have C:=(sj2 u 19 o_).1;have E:=my2 u;have H:=fq3 u h
 cases hd:decDigits u with
 |nil=>rw[hd]at C;simp at C
 |cons c r=>
  rw[hd]at E H;have I:=E c s_;unfold atoiAll parseMag;simp only;rw[if_neg (by omega:¬(c.toNat=43\/c.toNat=45)),if_neg (by simp:¬(c::r=[])),H];simp only;rw[if_neg o_,if_neg o_,if_neg o_]
def kLog:List UInt8:=[108,111,103]
def kTab:List UInt8:=[116,97,98]
def kMan:List UInt8:=[109,97,110]
def isKind (k:List UInt8):Bool:=k==kLog||(k==kTab||k==kMan)
def fits (n:Int):Bool:=decide (1<=n) &&decide (n<=1073741824)
def name (kind:List UInt8) (n:Int):List UInt8:=if fits n&&isKind kind then kind++[46] ++itoa n else []
def okOf:NumEnd Int->Option Int
 |.ok v=>some v
 |_=>none
def number (s kind:List UInt8):Option Int:=
 if hasPrefix s (kind++[46]) then match okOf (atoiAll (s.drop (kind.length+1))) with
  |some v=>if name kind v=s then some v else none
  |none=>none
 else none
theorem yx {kind:List UInt8} {n:Int} (h:(fits n&&isKind kind)=true):name kind n=kind++[46] ++decDigits n.toNat:=by
 have h1:1<=n:=by simp[fits]at h;omega
 rw[name,if_pos h,itoa,if_neg o_]
theorem sx1 {s kind:List UInt8} {v:Int} (h:number s kind=some v):name kind v=s:=by
 unfold number at h;split at h
 ·split at h
  ·split at h
   ·injection h with h
    subst h
    assumption
   ·cases h
  ·cases h
 ·cases h
theorem fx1 {kind:List UInt8} {n:Int} (h:(fits n&&isKind kind)=true):number (name kind n) kind=some n:=by
 have h1:1<=n/\n<=1073741824:=by simp[fits]at h;omega
 have e:=yx h;unfold number;have C:hasPrefix (name kind n) (kind++[46])=true:=by
  rw[e,hasPrefix,List.isPrefixOf_iff_prefix];exact List.prefix_append _ _
 have hd:(name kind n).drop (kind.length+1)=decDigits n.toNat:=by
  rw[e,au_ s_];simp
 rw[if_pos C,hd,kx3 n.toNat o_];simp only[okOf];rw[if_pos (by rw[show ((n.toNat:Nat):Int)=n by omega])]
 congr 1
 omega
theorem xx2 {kind:List UInt8} {n:Int} (h:name kind n≠[]):kind.length=3/\5<=(name kind n).length/\(name kind n).length<=14:=by
 by_cases C:(fits n&&isKind kind)=true
 ·rw[yx C]
  have h1:1<=n/\n<=1073741824:=by simp[fits]at C;omega
  have E:=sj2 n.toNat 9 o_;have H:kind.length=3:=by
   simp only[G_,isKind,bR_,beq_iff_eq]at C
   rcases C.2 with h2|h2|h2<;>rw[h2] <;>rfl
  simp only[d_,ad_];omega
 ·exact absurd (by rw[name,if_neg C]) h
theorem cw1 {kind:List UInt8} {n:Int} (h:(fits n&&isKind kind)=true):Sd.named (name kind n)=true:=by
 have C:name kind n≠[]:=by rw[yx h];simp
 obtain⟨_,h2,h3⟩:=xx2 C;unfold Sd.named;rw[decide_eq_true o_,decide_eq_true o_,yx h,bj_,bj_];have E:kind.all Sd.okCh=true:=by
  simp only[G_,isKind,bR_,beq_iff_eq]at h
  rcases h.2 with h2|h2|h2<;>rw[h2] <;>decide
 have hd:(decDigits n.toNat).all Sd.okCh=true:=by
  rw[ab_];intro c H;have:=my2 _ c H;simp[Sd.okCh,this]
 rw[E,hd];decide
theorem qz3 {kind:List UInt8} {n m:Int} (h:(fits n&&isKind kind)=true) (e:name kind m=name kind n):m=n:=by
 have C:(fits m&&isKind kind)=true:=by
  by_cases h1:(fits m&&isKind kind)=true
  ·exact h1
  ·rw[name,if_neg h1]at e
   rw[yx h]at e;simp at e
 have h1:=fx1 h;rw[<-e,fx1 C]at h1;injection h1
end Mn
section
open Go.Maps Go.Sort
theorem yk4 (m:Nat):AnyZ.SortsIn prog sorted168_ren Fence.wide m:=
 ⟨fun blk off cap H W I C E=>callsIn_wide.2 (AnyM.slices_Sort_string sort221 blk off cap H W I C E),
  fun p cap W=>callsIn_wide.2 (AnyM.slices_Sort_string_none sort221 p cap W)⟩
theorem lj4 (C:Option Nat) (W:World):CallsIn Fence.wide 5 prog 169 #[.map C] W fun e w'=>e=.returned (.func (.func 222) #[] #[.pointer (some ⟨W.heap.size,0,none⟩)])/\w'=W.alloc (.cells #[.map C] 110):=
 AnyZ.keys_in keys169 Fence.wide 5 trivial rfl C W
theorem jy3 {H:Type} (b nn:Nat) (I:DataW H) (R:Value->Option (DataW H×List MemPlace)) (w:World) (E:w.ownsMap prog 9 R b nn I) (O:Maps.size I<=maxLen) (C:Maps.size I *16<=140737488355328):
  CallsIn Fence.wide 5 prog 168 #[.func (.func 222) #[] #[.pointer (some ⟨w.heap.size,0,none⟩)]] (w.alloc (.cells #[.map (some b)] 110)) fun e w'=>∃(v:Value) (J:List (List UInt8)),e=.returned v/\J.Perm (strKeys I)/\
   w'.ownsRow (w.alloc (.cells #[.map (some b)] 110)).heap.size 9 1 v J.length ((J.mergeSort (fun x y=>decide (x<=y))).map encStr)/\(v=.slice none 0 0↔J=[])/\Below (w.alloc (.cells #[.map (some b)] 110)).heap.size (w.alloc (.cells #[.map (some b)] 110)) w':=by
 have U:=E.lt;have Q:SeqGives Fence.wide 2 prog 222 #[.pointer (some ⟨w.heap.size,0,none⟩)] encStr (fun J=>J.Perm (strKeys I)) (Maps.size I) (w.alloc (.cells #[.map (some b)] 110)):=
  AnyZ.keys_gives (ρ:=keys169_ren) { keys169 with } Fence.wide _ trivial rfl o_ w.heap.size b nn I _ s_ s_ (by
   obtain⟨es,clock,Z,Ft,hs,hD⟩:=E;exact⟨es,clock,(Below.heap_alloc _ _ b U).trans Z,Ft,hs,hD⟩)
 exact AnyZ.sorted_in sorted168 Fence.wide 5 trivial trivial trivial trivial rfl o_ (yk4 _) (enters_of func221 (by kernel_rfl) rfl) 222 #[.pointer (some ⟨w.heap.size,0,none⟩)] trivial (enters_of func222 (by kernel_rfl) rfl) _ _ O C _ Q
theorem mz3 (m:Nm):strKeys (Nm.enc m)=m.map (·.1):=by simp[Nm.enc,strKeys,Nm.lit1,strOf]
theorem aw3 (X:Dw) (S:Sd) (hw:S.Wf) (w:World) (h:DK w X S):Calls prog 107 #[.pointer (some ⟨X.d,0,none⟩)] w fun e w'=>
  ∃A c,e=.returned (.slice A S.list.length c)/\w'.ownsRow w.heap.size 9 1 (.slice A S.list.length c) S.list.length (S.list.map encStr)/\Below w.heap.size w w':=by
 have d6:=h.box.cell 6;have d2:=h.box.cell 2;simp only[Dw.cells,gE0,gE1]at d2 d6;have H:=vq2 X.d S.dead w d6
 cases hd:S.dead with
 |true=>
  have C:S.list=[]:=by simp[Sd.list,hd]
  rw[C];rw[hd]at H;clear hd C d6 d2;go_enter func107,ntmps107;go_wp2_with fail;refine H.mono ?_;rintro e w1 ⟨rfl,rfl⟩;go_wp2;go_ret;exact⟨_,_,rfl,E_ _ _ _ _,Below.refl _ _⟩
 |false=>
  have C:S.list=(S.names.map (·.1)).mergeSort fun x y=>decide (x<=y):=by simp[Sd.list,hd]
  have hn:=h.names;have I:=Nm.bx2 S.names;have hm:=hw.most;rw[hd]at H;have HL:=H_ C;obtain⟨L,J⟩:=n_ S.list;rw[<-J];have O:=H_ J;clear hd C d6 J;have E:=fun w0 (Q:cj1 w0 X.nb S.names.length S.names)=>jy3 X.nb _ _ _ w0 Q (by rw[I];unfold maxLen;omega) (by rw[I];omega);clear I;have HC:=H_ E;clear E;refine(callsIn_wide (n:=6)).1 ?_;have a7:Fence.wide.fn 169:=trivial;have a8:Fence.wide.fn 168:=trivial;have a9:Fence.wide.fn 44:=trivial;refine callsIn_of_wp func107 rfl trivial ?_ rfl;simp only[ntmps107,aA_,q_,V_,Nat.reduceAdd,Nat.reduceSub,bd_,be_,bs_,bi_,C_,T_]
  gi_wp2_with (first
   |(gi_at_call 44;refine(callsIn_wide.2 H).mono ?_;rintro e w' ⟨rfl,rfl⟩)
   |(gi_at_call 169;refine(lj4 _ _).mono ?_;rintro e w' ⟨rfl,rfl⟩)
   |(gi_at_call 168;refine(HC.out _ hn).mono ?_;rintro e w' ⟨v,U,rfl,Z,hrow,a0,hb⟩))
  have e1:L=U.mergeSort (fun x y=>decide (x<=y)):=by
   rw[mz3]at Z;rw[show L=_ from O.out,show S.list=_ from HL.out];exact(mergeSort_of_perm Z).symm
  have e2:U.length=L.length:=by rw[e1,List.length_mergeSort]
  rw[<-e1,e2]at hrow;obtain⟨A,c,rfl,_⟩:=gz hrow;go_ret;exact⟨_,_,rfl,own_base hrow s_,((Below.refl _ w).alloc l_ _).trans (hb.mono s_)⟩
end
structure Env (w:World):Prop where
 tab:Lib.TabIs prog w "internal/strconv.uint64pow10" .u64 Lib.pow10Tab
 syn:∃t p,w.var? prog "strconv.ErrSyntax" =some #[.iface t p]
 rng:∃t p,w.var? prog "strconv.ErrRange" =some #[.iface t p]
noncomputable def gOf (n:String):Nat:=(prog.globalNamed n).getD 0
noncomputable def NG:Nat:=max (gOf "internal/strconv.uint64pow10") (max (gOf "strconv.ErrSyntax") (gOf "strconv.ErrRange"))+1
theorem nj3 {w w':World} {G:List Nat} {n:String} {cs:Array Value} {g:Nat} (E:prog.globalNamed n=some g) (h:w.var? prog n=some cs) (c:Chg G w w') (H:g∉G):w'.var? prog n=some cs:=by
 unfold World.var? at h ⊢;rw[E]at h ⊢;simp only[Option.bind_some]at h ⊢;have I:w'.heap[g]?=w.heap[g]?:=c.block g (by
  cases C:w.heap[g]? with
  |none=>rw[C]at h;cases h
  |some o=>exact(A_.1 C).1) H
 rw[I];exact h
theorem ov3 {n:String} (h:(prog.globalNamed n).isSome=true):prog.globalNamed n=some (gOf n):=by
 unfold gOf
 cases C:prog.globalNamed n with
 |none=>rw[C]at h;cases h
 |some g=>rfl
theorem sy5:prog.globalNamed "internal/strconv.uint64pow10" =some (gOf "internal/strconv.uint64pow10"):=ov3 (by kernel_rfl)
theorem yq5:prog.globalNamed "strconv.ErrSyntax" =some (gOf "strconv.ErrSyntax"):=ov3 (by kernel_rfl)
theorem sq5:prog.globalNamed "strconv.ErrRange" =some (gOf "strconv.ErrRange"):=ov3 (by kernel_rfl)
theorem rq4 {w:World} {n:String} {cs:Array Value} {g:Nat} (E:prog.globalNamed n=some g) (h:w.var? prog n=some cs):g < w.heap.size:=by
 unfold World.var? at h;rw[E]at h;simp only[Option.bind_some]at h
 cases C:w.heap[g]? with
 |none=>rw[C]at h;cases h
 |some o=>exact(A_.1 C).1
theorem Env.base {w:World} (h:Env w):NG<=w.heap.size:=by
 obtain⟨h1,⟨t2,C,h2⟩,⟨t3,E,h3⟩⟩:=h;have H:=rq4 sy5 h1;have I:=rq4 yq5 h2;have J:=rq4 sq5 h3;unfold NG;omega
theorem Env.chg {w w':World} {G:List Nat} (h:Env w) (c:Chg G w w') (E:∀g∈G,NG<=g):Env w':=by
 have H:=sy5;have I:=yq5;have J:=sq5;have U:gOf "internal/strconv.uint64pow10" < NG:=by unfold NG;omega
 have Z:gOf "strconv.ErrSyntax" < NG:=by unfold NG;omega
 have l3:gOf "strconv.ErrRange" < NG:=by unfold NG;omega
 obtain⟨h1,⟨t2,O,h2⟩,⟨t3,Q,h3⟩⟩:=h;exact⟨nj3 H h1 c (fun C=>by have:=E _ C;omega),⟨t2,O,nj3 I h2 c (fun C=>by have:=E _ C;omega)⟩,⟨t3,Q,nj3 J h3 c (fun C=>by have:=E _ C;omega)⟩⟩
theorem Env.below {w w':World} (h:Env w) (C:Below w.heap.size w w'):Env w':=h.chg (Chg.of_below C []) (fun g E=>by cases E)
theorem name_any (k:ByteArray) (hk:k.size<=1000) (n:Int) (O:-9223372036854775808<=n/\n<=9223372036854775807) (w:World) (h:Env w):
  Calls prog 51 #[.string k,.int .i64 n] w fun e w'=>e=.returned (.string (str (Mn.name k.data.toList n)))/\Below w.heap.size w w':=by
 by_cases J:Mn.fits n=true
 ·have h1:1<=n/\n<=1073741824:=by simp[Mn.fits]at J;omega
  obtain⟨h1,h2⟩:=h1;have e0:(n < 1)=False:=by simp;omega
  have e1:((1073741824:Int) < n)=False:=by simp;omega
  by_cases C:Mn.isKind k.data.toList=true
  ·have E:Mn.name k.data.toList n=k.data.toList++[46] ++Lib.itoa n:=by rw[Mn.name,if_pos (by simp[J,C])]
   have I:(str (Mn.name k.data.toList n))=k++⟨#[46]⟩++⟨(Lib.itoa n).toArray⟩:=by
    rw[E];apply ByteArray.ext;simp[str]
   rw[I];have U:=Any.strconv_Itoa Tryz.laysM171 n O.1 O.2 w h.tab;have a0:=Lib.itoa_length_le n O.1 O.2;clear E I h J;have Z:k=str Mn.kLog\/k=str Mn.kTab\/k=str Mn.kMan:=by
    simp only[Mn.isKind,bR_,beq_iff_eq]at C;rw[<-dq1 k]
    rcases C with h|h|h<;>rw[h] <;>simp
   clear C
   rcases Z with rfl|rfl|rfl
   all_goals
    unfold str
    first|unfold Mn.kLog|unfold Mn.kTab|unfold Mn.kMan
    go_enter func51,ntmps51;go_wp2_with fail;refine U.mono ?_;rintro e w1 ⟨rfl,q,os,rfl⟩;go_wp2;go_ret;exact⟨rfl,Lib.below_grow _ _ l_ _ _⟩
  ·have E:Mn.name k.data.toList n=[]:=by rw[Mn.name,if_neg (by simp[C])]
   have H:str []=⟨#[]⟩:=rfl;rw[E,H];have Q:∀l:List UInt8,k.data.toList≠l->(k.toList==l)=false:=fun l h=>by
    rw[ByteArray.toList_eq];simpa using h
   have hd:k.data.toList≠Mn.kLog/\k.data.toList≠Mn.kTab/\k.data.toList≠Mn.kMan:=by
    simpa [Mn.isKind] using C
   obtain⟨d1,d2,d3⟩:=hd;have b1:=Q _ d1;have b2:=Q _ d2;have b3:=Q _ d3;unfold Mn.kLog at b1;unfold Mn.kTab at b2;unfold Mn.kMan at b3;clear Q E H d1 d2 d3 C J h;go_enter func51,ntmps51;go_wp2;go_ret;exact⟨rfl,Below.refl _ _⟩
 ·have he:Mn.name k.data.toList n=[]:=by rw[Mn.name,if_neg (by simp[J])]
  rw[he];have H:str []=⟨#[]⟩:=rfl;rw[H];have h1:n < 1\/1073741824 < n:=by simp[Mn.fits]at J;omega
  clear he J
  rcases h1 with h1|h1
  ·go_enter func51,ntmps51
   go_wp2;go_ret;exact⟨rfl,Below.refl _ _⟩
  ·have h2:(n < 1)=False:=by simp;omega
   go_enter func51,ntmps51;go_wp2;go_ret;exact⟨rfl,Below.refl _ _⟩
theorem ky5 (s:ByteArray) (hs:s.size<=1000000) (w:World) (h:Env w):
  Calls prog 224 #[.string s] w fun e w'=>∃(v:Int) (E:Value),e=.returned (.tuple #[.int .i64 v,E])/\((Mn.okOf (Lib.atoiAll s.data.toList)=some v/\E=.nilIface/\-9223372036854775808<=v/\v<=9223372036854775807)\/(Mn.okOf (Lib.atoiAll s.data.toList)=none/\∃t p,E=.iface t p))/\Below w.heap.size w w':=by
 cases C:Lib.atoiAll s.data.toList with
 |ok v=>
  refine(Any.strconv_Atoi_ok Tryz.laysC172 s o_ v C w).mono ?_;rintro e O ⟨rfl,h1⟩;refine⟨_,_,rfl,.inl ⟨rfl,rfl,Lib.atoiAll_bounds C⟩,?_⟩
  rcases h1 with rfl|⟨t,rfl⟩
  ·exact Below.refl _ _
  ·exact Joins.below_bytesWorld _ _ _ _ l_
 |range=>
  obtain⟨H,p,I⟩:=h.rng;refine(Any.strconv_Atoi_range_var Tryz.laysC172 s o_ C H p w I).mono ?_;rintro e O ⟨N,rfl,_,_,J⟩;exact⟨_,_,rfl,.inr ⟨rfl,_,_,rfl⟩,J⟩
 |_=>
  obtain⟨H,p,I⟩:=h.syn;refine(Any.strconv_Atoi_syntax_var Tryz.laysC172 s o_ C H p w I).mono ?_;rintro e O ⟨N,rfl,_,_,J⟩;exact⟨_,_,rfl,.inr ⟨rfl,_,_,rfl⟩,J⟩
def numV (o:Option Int):Value:=match o with
 |some v=>.tuple #[.int .i64 v,.bool true]
 |none=>.tuple #[.int .i64 0,.bool false]
theorem px1 (s k:ByteArray) (hs:s.size<=100000) (hk:k.size<=1000) (w:World) (h:Env w):
  Calls prog 172 #[.string s,.string k] w fun e w'=>e=.returned (numV (Mn.number s.data.toList k.data.toList))/\Below w.heap.size w w':=by
 have hcut:=fun p=>Any.strings_CutPrefix lays103 s p w;have E:=fun u hu I U=>ky5 u hu I U;have H:(k++⟨#[46]⟩).data.toList=k.data.toList++[46]:=by simp
 have hcut:=hcut (k++⟨#[46]⟩);rw[H]at hcut
 cases hp:Lib.hasPrefix s.data.toList (k.data.toList++[46]) with
 |false=>
  have hn:Mn.number s.data.toList k.data.toList=none:=by rw[Mn.number,if_neg (by simp[hp])]
  rw[hn,numV];have J:Lib.trimPrefix s.data.toList (k.data.toList++[46])=s.data.toList:=by rw[Lib.trimPrefix,if_neg (by simp[hp])]
  rw[hp,J]at hcut;have a':(⟨s.data.toList.toArray⟩:ByteArray)=s:=by simp
  rw[a']at hcut;have E:=E s o_ w h;clear hp hn J H a';go_enter func172,ntmps172;go_wp2_with fail;refine hcut.mono ?_;rintro e I ⟨rfl,rfl⟩;go_wp2_with fail;refine E.mono ?_;rintro e I ⟨v,ev,rfl,Q,O⟩;go_wp2;go_ret2;exact⟨rfl,O⟩
 |true=>
  have J:Lib.trimPrefix s.data.toList (k.data.toList++[46])=s.data.toList.drop (k.data.toList.length+1):=by rw[Lib.trimPrefix,if_pos hp];simp
  rw[hp,J]at hcut;obtain⟨T,hT⟩:∃T:ByteArray,T=⟨(s.data.toList.drop (k.data.toList.length+1)).toArray⟩:=⟨_,rfl⟩;have Z:T.data.toList=s.data.toList.drop (k.data.toList.length+1):=by rw[hT]
  have a5:T.size<=1000000:=by
   have:T.size=T.data.toList.length:=by simp
   rw[this,Z,I_];have:s.data.toList.length=s.size:=by simp
   omega
  rw[<-hT]at hcut;have E:=E T a5 w h;rw[Z]at E;have C:Mn.number s.data.toList k.data.toList=match Mn.okOf (Lib.atoiAll (s.data.toList.drop (k.data.toList.length+1))) with
   |some v=>if Mn.name k.data.toList v=s.data.toList then some v else none
   |none=>none:=by rw[Mn.number,if_pos hp];first|done|rfl
  cases a0:Mn.okOf (Lib.atoiAll (s.data.toList.drop (k.data.toList.length+1))) with
  |none=>
   rw[a0]at C E;simp only at C;rw[C,numV];have a1:=H_ E;clear E hp J H hT Z a5 C a0;go_enter func172,ntmps172;go_wp2_with fail;refine hcut.mono ?_;rintro e I ⟨rfl,rfl⟩;go_wp2_with fail;refine a1.out.mono ?_;rintro e I ⟨v,ev,rfl,Q,O⟩
   rcases Q with ⟨h1,_⟩|⟨_,t,p,rfl⟩
   ·cases h1
   ·go_wp2
    go_ret2;exact⟨rfl,O⟩
  |some v=>
   rw[a0]at C E;simp only at C;have U:∀I,Below w.heap.size w I->Env I:=fun I O=>h.below O;have a2:=fun(hv:-9223372036854775808<=v/\v<=9223372036854775807) I O=>name_any k hk v hv I (U I O)
   by_cases heq:Mn.name k.data.toList v=s.data.toList
   ·rw[if_pos heq]at C
    rw[C,numV];rw[heq,dq1]at a2;have a1:=H_ E;have a6:=H_ a2;clear E hp J H hT Z a5 C a0 a2 heq U;go_enter func172,ntmps172;go_wp2_with fail;refine hcut.mono ?_;rintro e w0 ⟨rfl,a7⟩;obtain rfl:=a7.symm;go_wp2_with fail;refine a1.out.mono ?_;rintro e I ⟨v',ev,rfl,Q,O⟩
    rcases Q with ⟨h1,rfl,hv⟩|⟨h1,_⟩
    ·injection h1 with h1
     subst h1;go_wp2_with fail;refine(a6.out hv I O).mono ?_;rintro e w2 ⟨rfl,a8⟩;have a9:Below w.heap.size w w2:=O.trans (a8.mono O.size);go_wp2;go_ret2;exact⟨rfl,a9⟩
    ·cases h1
   ·rw[if_neg heq]at C
    rw[C,numV];have b9:((str (Mn.name k.data.toList v)).toList==s.toList)=false:=by
     rw[ByteArray.toList_eq,ByteArray.toList_eq,oz];simpa using heq
    generalize str (Mn.name k.data.toList v)=nm at *;have a1:=H_ E;have a6:=H_ a2;clear E hp J H hT Z a5 C a0 a2 heq U;go_enter func172,ntmps172;go_wp2_with fail;refine hcut.mono ?_;rintro e w0 ⟨rfl,a7⟩;obtain rfl:=a7.symm;go_wp2_with fail;refine a1.out.mono ?_;rintro e I ⟨v',ev,rfl,Q,O⟩
    rcases Q with ⟨h1,rfl,hv⟩|⟨h1,_⟩
    ·injection h1 with h1
     subst h1;go_wp2_with fail;refine(a6.out hv I O).mono ?_;rintro e w2 ⟨rfl,a8⟩;have a9:Below w.heap.size w w2:=O.trans (a8.mono O.size);go_wp2;go_ret2;exact⟨rfl,a9⟩
    ·cases h1
section
open Go.Proofs.Tryz Go Go.Shelf Go.RowKit
theorem yq4: "*" ++ "errors.errorString" = "*errors.errorString" :=by decide
theorem ox5 (u:TypeId) (h:prog.typeName? 3 u=some "*errors.errorString"):u=401:=
 typeName_ptr_named (nm:= "errors.errorString") (by rw[yq4];kernel_rfl) (by kernel_rfl) (by decide) u (by rw[yq4];exact h)
theorem az6 {a b:String×DataW Unit} (W:World) (h:laidMet prog [a,b,("internal/strconv.uint64pow10",Rows.laid_internal_strconv_uint64pow10),("strconv.ErrRange",Rows.laid_strconv_ErrRange),("strconv.ErrSyntax",Rows.laid_strconv_ErrSyntax)] W):Env W:=by
 have h2:=h.tail.tail;have ht:Lib.TabIs prog W "internal/strconv.uint64pow10" .u64 Lib.pow10Tab:=
  Lib.tabIs_of_head (g:=gOf "internal/strconv.uint64pow10") (t:=373) (e:=27) (n:=20) sy5 (by kernel_rfl) underlying373 underlying27 (by kernel_rfl) (by kernel_rfl) h2
 obtain⟨a1,s1,hv1,_⟩:=laid_sentinel h2.tail (g:=gOf "strconv.ErrRange") sq5 (by kernel_rfl) underlying286 ox5 underlying401 underlying403 rfl rfl underlying9 (by kernel_rfl) (by kernel_rfl);obtain⟨a2,s2,hv2,_⟩:=laid_sentinel h2.tail.tail (g:=gOf "strconv.ErrSyntax") yq5 (by kernel_rfl) underlying286 ox5 underlying401 underlying403 rfl rfl underlying9 (by kernel_rfl) (by kernel_rfl);exact⟨ht,⟨_,_,hv2⟩,⟨_,_,hv1⟩⟩
end
end Go.Proofs.YtkdbagdiplpcfaaGreatDoor
