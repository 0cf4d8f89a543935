/- Texts PlainBytes, Items, ItemA, Step, ItemK, SkipA, StepB, SkipB, PlainOne in one. No conditions. -/
import Derived.Test.YthjdpplgfdihoaaGreatDoorBunAE
import Derived.Test.YthjdpplgfdihoaaGreatDoorBunAD
import Derived.BigQuiet
import Derived.Lib.MinMax
import Derived.Test.YthjdpplgfdihoaaGreatDoorBunAC
import Derived.Deep.RegionLaw

set_option linter.unusedSimpArgs false
set_option linter.unusedVariables false
set_option maxRecDepth 100000
set_option maxHeartbeats 16000000
namespace Go.Proofs.YthjdpplgfdihoaaGreatDoor
section
open It
def sgn (x:Int):Nat:=if 0≤x then (2 *x).toNat else (-2 *x - 1).toNat
def mx1 (n:Nat):Int:=if n % 2=0 then (n / 2:Nat) else -((n / 2:Nat):Int) - 1
theorem dw4 (x:Int):mx1 (sgn x)=x:=by
 unfold mx1 sgn;split<;>split<;>omega
theorem wk4 {x:Int} (h1:-9223372036854775808≤x) (h2:x < 9223372036854775808):sgn x < 2 ^ 64:=by
 unfold sgn;split<;>omega
namespace It
def fit (a:It):Prop:=-9223372036854775808≤a.x∧a.x < 9223372036854775808
def one (a:It):List UInt8:=UInt8.ofNat a.s.toNat::UInt8.ofNat a.k.toNat::(Pn.put a.t++(Pn.put a.v++Pn.put (sgn a.x)))
def bytes (l:List It):List UInt8:=Pn.put l.length++l.flatMap one
def take1 (b:List UInt8):It×List UInt8×Nat:=
 if b.length < 2 then (⟨0,0,0,0,0⟩,[],4) else
 match Pn.take (b.drop 2) with
 |(t,n1,0)=>match Pn.take ((b.drop 2).drop n1) with
  |(v,n2,0)=>match Pn.take (((b.drop 2).drop n1).drop n2) with
   |(x,n3,0)=>(⟨Fr.u b 0,Fr.u b 1,t,v,mx1 x⟩,((b.drop 2).drop n1|>.drop n2).drop n3,0)
   |(_,_,e)=>(⟨0,0,0,0,0⟩,[],e)
  |(_,_,e)=>(⟨0,0,0,0,0⟩,[],e)
 |(_,_,e)=>(⟨0,0,0,0,0⟩,[],e)
def takes:Nat→List UInt8→List It→List It×List UInt8×Nat
 |0,b,out=>(out,b,0)
 |n+1,b,out=>match take1 b with
  |(x,r,0)=>takes n r (out++[x])
  |(_,_,e)=>([],[],e)
def read (b:List UInt8):List It×Nat:=match Pn.take b with
 |(n,size,0)=>if 2000 < n then ([],2) else match takes n (b.drop size) [] with
  |(out,r,0)=>if r=[]∧out.all ok=true then (out,0) else ([],3)
  |(_,_,e)=>([],e)
 |(_,_,e)=>([],e)
theorem fv3 {a:It}:a.ok=true↔0≤a.s∧a.s≤255∧1≤a.v∧a.v≤281474976710656∧(a.k=1∧a.t=0∧a.x=0∨a.k=2∧a.t≤1099511627776):=by
 simp[ok,and_assoc]
theorem xx3 {a:It} (h:a.ok=true) (hf:a.fit) (r:List UInt8):take1 (a.one++r)=(a,r,0):=by
 rw[fv3]at h;have e1:(a.one++r).drop 2=Pn.put a.t++(Pn.put a.v++(Pn.put (sgn a.x)++r)):=by simp[one]
 have l2:¬(a.one++r).length < 2:=by simp[one]
 unfold take1;rw[if_neg l2,e1,Pn.ik1 _ _ (by omega)];simp only[a8_];rw[Pn.ik1 _ _ (by omega)];simp only[a8_];rw[Pn.ik1 _ _ (wk4 hf.1 hf.2)];simp only[a8_];have u0:((Fr.u (a.one++r) 0:Nat):Int)=a.s:=by
  simp only[Fr.u,one,N_,bE_];rw[Fr.u8n _ (by omega)];omega
 have u1:((Fr.u (a.one++r) 1:Nat):Int)=a.k:=by
  simp only[Fr.u,one,N_,List.getD_cons_succ,bE_];rw[Fr.u8n _ (by omega)];omega
 rw[u0,u1,dw4]
theorem bj2:∀(l:List It) (out:List It) (r:List UInt8),(∀a∈l,a.ok=true∧a.fit)→takes l.length (l.flatMap one++r) out=(out++l,r,0)
 |[],out,r,_=>by simp[takes]
 |a::l,out,r,h=>by
  have h1:=h a m_;simp only[r_,takes,M_,D_,xx3 h1.1 h1.2];rw[bj2 l (out++[a]) r (fun b hb=>h b (f_ _ hb))];simp
theorem sx3 {l:List It} (h:∀a∈l,a.ok=true∧a.fit) (hl:l.length≤2000):read (bytes l)=(l,0):=by
 unfold read bytes;rw[Pn.ik1 _ _ (by omega)];simp only[a8_];rw[if_neg (by omega),show l.flatMap one=l.flatMap one++[] from (aU_ _).symm,bj2 l [] [] h];have hal:l.all ok=true:=al_.2 fun a ha=>(h a ha).1;simp[hal]
theorem ax5 (a:It):2≤a.one.length∧a.one.length≤32:=by
 have h1:=Pn.ik a.t;have h2:=Pn.ik a.v;have h3:=Pn.ik (sgn a.x);simp only[one,r_,e_];omega
theorem aq1 (l:List It):(bytes l).length≤10+32 *l.length:=by
 have h1:=Pn.ik l.length;have h2:∀l:List It,(l.flatMap one).length≤32 *l.length:=fun l=>by
  induction l with
  |nil=>simp
  |cons a l ih=>have:=ax5 a;simp only[M_,e_,r_];omega
 have:=h2 l;simp only[bytes,e_];omega
def key (a:It):List UInt8:=UInt8.ofNat a.s.toNat::UInt8.ofNat a.k.toNat::[56,48,40,32,24,16,8,0].map fun k=>UInt8.ofNat (a.t / 2 ^ k)
end It
end
section
open Go Go.RowKit
theorem mw2 (a:Addr) (k:Nat) {j:Nat} (hj:0 < j):a.add (k+j)=⟨(a.add k).block,(a.add k).off+j,none⟩:=by
 rw[←xx1,Addr.add,if_neg (by omega)]
def It.cells (a:It):List Value:=[.int .i64 a.s,.int .i64 a.k,.int .u64 (a.t:Int),.int .u64 (a.v:Int),.int .i64 a.x]
def It.val (a:It):Value:=.agg #[.int .i64 a.s,.int .i64 a.k,.int .u64 (a.t:Int),.int .u64 (a.v:Int),.int .i64 a.x]
theorem It.bz (a:It):a.cells.length=5:=rfl
theorem gy {a b:Bool} (h:a=b):Ending.returned (.bool a)=.returned (.bool b):=by rw[h]
def itc (l:List It):List Value:=l.flatMap It.cells
theorem iw (l:List It):(itc l).length=l.length *5:=zy3 It.cells 5 It.bz l
theorem nv2 (l:List It) (k j:Nat) (hk:k < l.length) (hj:j < 5):(itc l)[k *5+j]?=(l[k]).cells[j]?:=jy1 It.cells 5 It.bz l k j hk hj
theorem qw (a b:List It):itc (a++b)=itc a++itc b:=by simp[itc]
theorem xq (l:List It):∀u∈itc l,u.oneCell'=true:=by
 intro u hu;simp only[itc,O_,It.cells,g_,ar_,or_false]at hu;obtain⟨a,_,rfl|rfl|rfl|rfl|rfl⟩:=hu<;>rfl
theorem bz1 (l:List It) (k:Nat):itc (l.take k)=(itc l).take (k *5):=by
 induction l generalizing k with
 |nil=>simp[itc]
 |cons a l ih=>
  cases k with
  |zero=>simp[itc]
  |succ k=>
   have e:(k+1)*5=k *5+5:=by omega
   have h:=ih k;unfold itc at h ⊢;rw[bX_,M_,M_,h,e];rfl
theorem kw1 (l:List It) (k:Nat):itc (l.drop k)=(itc l).drop (k *5):=by
 induction l generalizing k with
 |nil=>simp[itc]
 |cons a l ih=>
  cases k with
  |zero=>simp[itc]
  |succ k=>
   have e:(k+1)*5=k *5+5:=by omega
   have h:=ih k;unfold itc at h ⊢;rw[bD_,M_,h,e];rfl
structure ItAt (w:World) (a:Addr) (k:Nat) (x:It):Prop where
 c0:w.cell? (a.add (k *5))=some (.int .i64 x.s)
 c1:w.cell? ⟨(a.add (k *5)).block,(a.add (k *5)).off+1,none⟩=some (.int .i64 x.k)
 c2:w.cell? ⟨(a.add (k *5)).block,(a.add (k *5)).off+2,none⟩=some (.int .u64 (x.t:Int))
 c3:w.cell? ⟨(a.add (k *5)).block,(a.add (k *5)).off+3,none⟩=some (.int .u64 (x.v:Int))
 c4:w.cell? ⟨(a.add (k *5)).block,(a.add (k *5)).off+4,none⟩=some (.int .i64 x.x)
variable {B B' n:Nat} {w w':World} {A:Option Addr} {xs:List It}
theorem Row.uz (h:Row B w A n 5 (itc xs)):xs.length=n:=by
 have:=h.len;rw[iw]at this;omega
theorem Row.it (h:Row B w A n 5 (itc xs)) {k:Nat} (hk:k < n):∃a,∃hl:k < xs.length,A=some a∧a.block < B∧ItAt w a k xs[k]:=by
 have hl:k < xs.length:=by have:=h.uz;omega
 have g:=fun j (hj:j < 5)=>nv2 xs k j hl hj;obtain⟨a,ea,hb,c0⟩:=iq1 h (g 0 (by omega));have cd:∀j v,0 < j→j < 5→(It.cells xs[k])[j]?=some v→w.cell? ⟨(a.add (k *5)).block,(a.add (k *5)).off+j,none⟩=some v:=fun j v h0 hj hv=>by
  obtain⟨a',ea',_,c⟩:=iq1 h ((g j hj).trans hv);rw[ea]at ea';injection ea' with ea';subst ea';rw[←mw2 a (k *5) h0];exact c
 exact⟨a,hl,ea,hb,⟨c0,cd 1 _ (by omega) (by omega) rfl,cd 2 _ (by omega) (by omega) rfl,cd 3 _ (by omega) (by omega) rfl,cd 4 _ (by omega) (by omega) rfl⟩⟩
theorem ItAt.below {a:Addr} {k:Nat} {x:It} (h:ItAt w a k x) (ha:a.block < B) (hb:Below B w w'):ItAt w' a k x:=by
 have e:(a.add (k *5)).block < B:=by rw[add_block];exact ha
 exact⟨(hb.cell e).trans h.c0,(hb.cell (p:=⟨(a.add (k *5)).block,(a.add (k *5)).off+1,none⟩) e).trans h.c1,(hb.cell (p:=⟨(a.add (k *5)).block,(a.add (k *5)).off+2,none⟩) e).trans h.c2,(hb.cell (p:=⟨(a.add (k *5)).block,(a.add (k *5)).off+3,none⟩) e).trans h.c3,(hb.cell (p:=⟨(a.add (k *5)).block,(a.add (k *5)).off+4,none⟩) e).trans h.c4⟩
theorem Row.lq5 (h:Row B w A n 5 (itc xs)) {k m:Nat} (hk:k≤m) (hm:m≤n) {A':Option Addr} (hA:k < m→A'=A.map (·.add (k *5))):Row B w A' (m - k) 5 (itc ((xs.drop k).take (m - k))):=by
 have:=h.cut hk hm hA
 rwa [bz1,kw1]
end
section
open Go Go.RowKit
theorem ez1 (a b:It) (w:World):Calls Tryz.prog 163 #[a.val,b.val] w fun e w'=>e=.returned (.bool (a.less b))∧Below w.heap.size w w':=by
 obtain⟨s1,k1,t1,v1,x1⟩:=a;obtain⟨s2,k2,t2,v2,x2⟩:=b;have hb0:=(b_ w (.cells #[.int .i64 s1,.int .i64 k1,.int .u64 (t1:Int),.int .u64 (v1:Int),.int .i64 x1] 36)).alloc (by simp) (.cells #[.int .i64 s2,.int .i64 k2,.int .u64 (t2:Int),.int .u64 (v2:Int),.int .i64 x2] 36);obtain⟨r,hr⟩:=n_ (It.less ⟨s1,k1,t1,v1,x1⟩ ⟨s2,k2,t2,v2,x2⟩);rw[←hr];unfold It.less at hr;unfold It.val;simp only at hr ⊢
 by_cases h1:s1=s2
 ·subst h1
  by_cases h2:k1=k2
  ·subst h2
   by_cases h3:(t1:Int) < (t2:Int)
   ·have h4:t1 < t2:=by omega
    have HB:=H_ (hr.trans (show _=true by simp[h4]));clear hr;go_enter Tryz.func163,Tryz.ntmps163;go_wp2;go_ret;exact⟨gy HB.out.symm,hb0⟩
   ·have h4:¬t1 < t2:=by omega
    have HB:=H_ (hr.trans (show _=false by simp[h4]));clear hr;go_enter Tryz.func163,Tryz.ntmps163;go_wp2;go_ret;exact⟨gy HB.out.symm,hb0⟩
  ·have e2:(k1==k2)=false:=by simpa using h2
   by_cases h3:k1 < k2
   ·have HB:=H_ (hr.trans (show _=true by simp[h2,h3]))
    clear hr;go_enter Tryz.func163,Tryz.ntmps163;go_wp2;go_ret;exact⟨gy HB.out.symm,hb0⟩
   ·have HB:=H_ (hr.trans (show _=false by simp[h2,h3]))
    clear hr;go_enter Tryz.func163,Tryz.ntmps163;go_wp2;go_ret;exact⟨gy HB.out.symm,hb0⟩
 ·have e1:(s1==s2)=false:=by simpa using h1
  by_cases h3:s1 < s2
  ·have HB:=H_ (hr.trans (show _=true by simp[h1,h3]))
   clear hr;go_enter Tryz.func163,Tryz.ntmps163;go_wp2;go_ret;exact⟨gy HB.out.symm,hb0⟩
  ·have HB:=H_ (hr.trans (show _=false by simp[h1,h3]))
   clear hr;go_enter Tryz.func163,Tryz.ntmps163;go_wp2;go_ret;exact⟨gy HB.out.symm,hb0⟩
theorem ak2 (a b:It) (w:World):Calls Tryz.prog 166 #[a.val,b.val] w fun e w'=>e=.returned (.bool (a.wins b))∧Below w.heap.size w w':=by
 obtain⟨s1,k1,t1,v1,x1⟩:=a;obtain⟨s2,k2,t2,v2,x2⟩:=b;have hb0:=(b_ w (.cells #[.int .i64 s1,.int .i64 k1,.int .u64 (t1:Int),.int .u64 (v1:Int),.int .i64 x1] 36)).alloc (by simp) (.cells #[.int .i64 s2,.int .i64 k2,.int .u64 (t2:Int),.int .u64 (v2:Int),.int .i64 x2] 36);obtain⟨r,hr⟩:=n_ (It.wins ⟨s1,k1,t1,v1,x1⟩ ⟨s2,k2,t2,v2,x2⟩);rw[←hr];unfold It.wins at hr;unfold It.val;simp only at hr ⊢
 by_cases h1:(v2:Int) < (v1:Int)
 ·have h4:v2 < v1:=by omega
  have HB:=H_ (hr.trans (show _=true by simp[h4]));clear hr;go_enter Tryz.func166,Tryz.ntmps166;go_wp2;go_ret;exact⟨gy HB.out.symm,hb0⟩
 ·have h4:¬v2 < v1:=by omega
  by_cases h2:v1=v2
  ·subst h2
   by_cases h3:x2 < x1
   ·have HB:=H_ (hr.trans (show _=true by simp[h3]))
    clear hr;go_enter Tryz.func166,Tryz.ntmps166;go_wp2;go_ret;exact⟨gy HB.out.symm,hb0⟩
   ·have HB:=H_ (hr.trans (show _=false by simp[h3]))
    clear hr;go_enter Tryz.func166,Tryz.ntmps166;go_wp2;go_ret;exact⟨gy HB.out.symm,hb0⟩
  ·have e2:((v1:Int)==(v2:Int))=false:=by rw[beq_eq_false_iff_ne];omega
   have HB:=H_ (hr.trans (show _=false by simp[h4,h2]));clear hr;go_enter Tryz.func166,Tryz.ntmps166;go_wp2;go_ret;exact⟨gy HB.out.symm,hb0⟩
theorem iq2 (a b:It) (w:World):Calls Tryz.prog 246 #[a.val,b.val] w fun e w'=>e=.returned (.bool (a.hides b))∧Below w.heap.size w w':=by
 obtain⟨s1,k1,t1,v1,x1⟩:=a;obtain⟨s2,k2,t2,v2,x2⟩:=b;have hb0:=(b_ w (.cells #[.int .i64 s1,.int .i64 k1,.int .u64 (t1:Int),.int .u64 (v1:Int),.int .i64 x1] 36)).alloc (by simp) (.cells #[.int .i64 s2,.int .i64 k2,.int .u64 (t2:Int),.int .u64 (v2:Int),.int .i64 x2] 36);obtain⟨r,hr⟩:=n_ (It.hides ⟨s1,k1,t1,v1,x1⟩ ⟨s2,k2,t2,v2,x2⟩);rw[←hr];unfold It.hides at hr;unfold It.val;simp only at hr ⊢
 by_cases h1:k1=1
 ·subst h1
  by_cases h2:k2=2
  ·subst h2
   by_cases h3:s1=s2
   ·subst h3
    by_cases h4:(v2:Int)≤(v1:Int)
    ·have h5:v2≤v1:=by omega
     have HB:=H_ (hr.trans (show _=true by simp[h5]));clear hr;go_enter Tryz.func246,Tryz.ntmps246;go_wp2;go_ret;exact⟨gy HB.out.symm,hb0⟩
    ·have h5:¬v2≤v1:=by omega
     have HB:=H_ (hr.trans (show _=false by simp[h5]));clear hr;go_enter Tryz.func246,Tryz.ntmps246;go_wp2;go_ret;exact⟨gy HB.out.symm,hb0⟩
   ·have e3:(s1==s2)=false:=by simpa using h3
    have HB:=H_ (hr.trans (show _=false by simp[h3]));clear hr;go_enter Tryz.func246,Tryz.ntmps246;go_wp2;go_ret;exact⟨gy HB.out.symm,hb0⟩
  ·have e2:(k2==2)=false:=by simpa using h2
   have HB:=H_ (hr.trans (show _=false by simp[h2]));clear hr;go_enter Tryz.func246,Tryz.ntmps246;go_wp2;go_ret;exact⟨gy HB.out.symm,hb0⟩
 ·have e1:(k1==1)=false:=by simpa using h1
  have HB:=H_ (hr.trans (show _=false by simp[h1]));clear hr;go_enter Tryz.func246,Tryz.ntmps246;go_wp2;go_ret;exact⟨gy HB.out.symm,hb0⟩
theorem zz1 (a b:It) (w:World):Calls Tryz.prog 165 #[a.val,b.val] w fun e w'=>e=.returned (.bool (a.same b))∧Below w.heap.size w w':=by
 obtain⟨s1,k1,t1,v1,x1⟩:=a;obtain⟨s2,k2,t2,v2,x2⟩:=b;have hb0:=(b_ w (.cells #[.int .i64 s1,.int .i64 k1,.int .u64 (t1:Int),.int .u64 (v1:Int),.int .i64 x1] 36)).alloc (by simp) (.cells #[.int .i64 s2,.int .i64 k2,.int .u64 (t2:Int),.int .u64 (v2:Int),.int .i64 x2] 36);have hl:=fun W=>ez1 ⟨s1,k1,t1,v1,x1⟩ ⟨s2,k2,t2,v2,x2⟩ W;have hl2:=fun W=>ez1 ⟨s2,k2,t2,v2,x2⟩ ⟨s1,k1,t1,v1,x1⟩ W;unfold It.val It.same;unfold It.val at hl hl2;simp only at hl hl2 ⊢;generalize It.less ⟨s1,k1,t1,v1,x1⟩ ⟨s2,k2,t2,v2,x2⟩=p at *;generalize It.less ⟨s2,k2,t2,v2,x2⟩ ⟨s1,k1,t1,v1,x1⟩=q at *;have HL:=H_ hl;have HL2:=H_ hl2;have hA:=(BoxO.new w #[.int .i64 s1,.int .i64 k1,.int .u64 (t1:Int),.int .u64 (v1:Int),.int .i64 x1] 36).alloc (.cells #[.int .i64 s2,.int .i64 k2,.int .u64 (t2:Int),.int .u64 (v2:Int),.int .i64 x2] 36);have hB:=BoxO.new (w.alloc (.cells #[.int .i64 s1,.int .i64 k1,.int .u64 (t1:Int),.int .u64 (v1:Int),.int .i64 x1] 36)) #[.int .i64 s2,.int .i64 k2,.int .u64 (t2:Int),.int .u64 (v2:Int),.int .i64 x2] 36;rw[A_]at hB;clear hl hl2
 cases p with
 |true=>
  clear hA hB HL2;go_enter Tryz.func165,Tryz.ntmps165;go_wp2_with fail;refine(HL.out _).mono ?_;rintro e w1 ⟨rfl,hb1⟩;have hbz:=az hb0 hb1;go_wp2;go_ret;exact⟨rfl,hbz⟩
 |false=>
  go_enter Tryz.func165,Tryz.ntmps165;go_wp2_with fail;refine(HL.out _).mono ?_;rintro e w1 ⟨rfl,hb1⟩;have hbz:=az hb0 hb1;have kA:=hA.below hb1;have kB:=hB.below hb1;have a0:=kA.c0;have a1:=kA.c1;have a2:=kA.c2;have a3:=kA.c3;have a4:=kA.c4;have b0:=kB.c0;have b1:=kB.c1;have b2:=kB.c2;have b3:=kB.c3;have b4:=kB.c4;clear hA hB kA kB HL;go_wp2_with fail;refine(HL2.out _).mono ?_;rintro e w2 ⟨rfl,hb2⟩;have hby:=az hbz hb2
  cases q
  all_goals
   go_wp2;go_ret;exact⟨rfl,hby⟩
theorem nk1 (a:It) (w:World):Calls Tryz.prog 169 #[a.val] w fun e w'=>e=.returned (.bool a.ok)∧Below w.heap.size w w':=by
 obtain⟨s1,k1,t1,v1,x1⟩:=a;have hb0:=b_ w (.cells #[.int .i64 s1,.int .i64 k1,.int .u64 (t1:Int),.int .u64 (v1:Int),.int .i64 x1] 36);obtain⟨r,hr⟩:=n_ (It.ok ⟨s1,k1,t1,v1,x1⟩);rw[←hr];unfold It.ok at hr;unfold It.val;simp only at hr ⊢
 by_cases h1:s1 < 0
 ·have g1:¬0≤s1:=by omega
  have HB:=H_ (hr.trans (show _=false by simp[g1]));clear hr;go_enter Tryz.func169,Tryz.ntmps169;go_wp2;go_ret;exact⟨gy HB.out.symm,hb0⟩
 have g1:0≤s1:=by omega
 by_cases h2:255 < s1
 ·have g2:¬s1≤255:=by omega
  have HB:=H_ (hr.trans (show _=false by simp[g2]));clear hr;go_enter Tryz.func169,Tryz.ntmps169;go_wp2;go_ret;exact⟨gy HB.out.symm,hb0⟩
 have g2:s1≤255:=by omega
 by_cases h3:(v1:Int) < 1
 ·have g3:¬1≤v1:=by omega
  have HB:=H_ (hr.trans (show _=false by simp[g3]));clear hr;go_enter Tryz.func169,Tryz.ntmps169;go_wp2;go_ret;exact⟨gy HB.out.symm,hb0⟩
 have g3:1≤v1:=by omega
 by_cases h4:281474976710656 < (v1:Int)
 ·have g4:¬v1≤281474976710656:=by omega
  have HB:=H_ (hr.trans (show _=false by simp[g4]));clear hr;go_enter Tryz.func169,Tryz.ntmps169;go_wp2;go_ret;exact⟨gy HB.out.symm,hb0⟩
 have g4:v1≤281474976710656:=by omega
 by_cases h5:k1=1
 ·subst h5
  by_cases h6:t1=0
  ·subst h6
   by_cases h7:x1=0
   ·subst h7
    have HB:=H_ (hr.trans (show _=true by simp[g1,g2,g3,g4]));clear hr;go_enter Tryz.func169,Tryz.ntmps169;go_wp2;go_ret;exact⟨gy HB.out.symm,hb0⟩
   ·have e7:(x1==0)=false:=by simpa using h7
    have HB:=H_ (hr.trans (show _=false by simp[h7]));clear hr;go_enter Tryz.func169,Tryz.ntmps169;go_wp2;go_ret;exact⟨gy HB.out.symm,hb0⟩
  ·have e6:((t1:Int)==0)=false:=by rw[beq_eq_false_iff_ne];omega
   have HB:=H_ (hr.trans (show _=false by simp[h6]));clear hr;go_enter Tryz.func169,Tryz.ntmps169;go_wp2;go_ret;exact⟨gy HB.out.symm,hb0⟩
 have e5:(k1==1)=false:=by simpa using h5
 by_cases h8:k1=2
 ·subst h8
  by_cases h9:(t1:Int)≤1099511627776
  ·have g9:t1≤1099511627776:=by omega
   have HB:=H_ (hr.trans (show _=true by simp[g1,g2,g3,g4,g9]));clear hr;go_enter Tryz.func169,Tryz.ntmps169;go_wp2;go_ret;exact⟨gy HB.out.symm,hb0⟩
  ·have g9:¬t1≤1099511627776:=by omega
   have HB:=H_ (hr.trans (show _=false by simp[g9]));clear hr;go_enter Tryz.func169,Tryz.ntmps169;go_wp2;go_ret;exact⟨gy HB.out.symm,hb0⟩
 have e8:(k1==2)=false:=by simpa using h8
 have HB:=H_ (hr.trans (show _=false by simp[h5,h8]));clear hr;go_enter Tryz.func169,Tryz.ntmps169;go_wp2;go_ret;exact⟨gy HB.out.symm,hb0⟩
end
section
open Go Go.RowKit
theorem zj1 {P:Program} {ops:Array Oper} {o:Oper} {a:Act} {w:World} {K:Act→World→Prop} {Q:Exit→Act→World→Prop} {E:Prop} (hgd:o.guard=none) (s x:Operand) (t:TypeId)
  (ho:o.op=.call { callee:=.builtin .append,args:=#[s,x],argTypes:=#[t,t] })
  (base:Nat) (e:TypeId) (i:TypeInfo) (z:Value) (size bytes:Nat) (ht:P.underlying t=some (.slice e)) (hi:P.info? e=some i) (hz:i.zero=some z)
  (hsize:i.size=size) (hby:i.bytes=bytes) (hzs:z.cells.size=size) (hsz:0 < size) (hbase:base≤w.heap.size) (v:Value) (n:Nat) (xs:List Value) (hs:a.eval s=v) (hown:w.ownsRow base e size v n xs)
  (B:Nat) (A:Option Addr) (m c:Nat) (hm:0 < m) (news:List Value) (hx:a.eval x=.slice A m c) (hr:Row B w A m size news) (h1:∀u∈news,u.oneCell'=true)
  (N:Nat) (X:List Value) (hN:n+m=N) (hX:xs++news=X) (h63:N≤maxLen) (hbytes:N *bytes≤140737488355328)
  (h:∀A' c' w',w'.ownsRow base e size (.slice A' N c') N X→w.grownBy w' v.ownBlock→N≤c'→c'≤maxLen→((Value.slice A' N c').ownBlock=v.ownBlock∨(Value.slice A' N c').ownBlock=some w.heap.size)→K (a.put o.dst (.slice A' N c')) w'):
  if Region.wanted o (yielded ops a.tmps)=true then Oper.wp P o a w K Q else E:=by
 have hw:Region.wanted o (yielded ops a.tmps)=true:=by simp[Region.wanted,hgd]
 rw[if_pos hw];subst hN;subst hX;have hpos:0 < news.length:=by
  rw[hr.len];exact cg_ hm hsz
 obtain⟨a',rfl,_⟩:=hr.some_ hpos;obtain⟨v',w',hrun,h3,h4,_,h6⟩:=run_append_own_at (P:=P) (ty:=o.type) w base t e i z size bytes ht hi hz hsize hby hzs hsz v n xs hown a' m c news hr.len hr.cells h1 h63 hbytes hbase;obtain⟨A',c',rfl,h5,h7,_⟩:=dw h3;unfold Oper.wp execOp;simp only[ho,resolve,invoke,builtin,Sem.run_bind,Sem.run_pure,Result.andThen_ok,by_,aw_,bb_,hs,hx,hrun];exact h A' c' w' h3 h4 h5 h7 h6
end
section
open Go Go.RowKit Go.Lib
def e8 (n:Nat):List UInt8:=[56,48,40,32,24,16,8,0].map fun k=>UInt8.ofNat (n / 2 ^ k)
theorem zz4 (n:Nat) {k:Nat} (hk:k < 8):(e8 n).take (k+1)=(e8 n).take k++[UInt8.ofNat (n / 2 ^ (56 - 8 *k))]:=by
 have e:k=0∨k=1∨k=2∨k=3∨k=4∨k=5∨k=6∨k=7:=by omega
 rcases e with rfl|rfl|rfl|rfl|rfl|rfl|rfl|rfl<;>rfl
theorem yy3 (A:Option Addr) (N c:Nat) (l:List UInt8) (n:Nat) (hn:n < 18446744073709551616) (w:World) (hN:N≤1073741824) (hr:Row w.heap.size w A N 1 (bts l)):
  Calls Tryz.prog 257 #[.slice A N c,.int .u64 (n:Int)] w fun e w'=>∃A' c',e=.returned (.slice A' (N+8) c')∧
   w'.ownsRow w.heap.size 5 1 (.slice A' (N+8) c') (N+8) (bts (l++e8 n))∧N+8≤c'∧c'≤maxLen∧Below w.heap.size w w':=by
 obtain⟨i0,hi0,hz0,hz1,hz2⟩:=info_parts eq1;go_enter Tryz.func257,Tryz.ntmps257;go_wp2_with (at_builtin;refine iy ?_);refine gz (ry rfl (.const (.slice none 0 0)) (.tmp 7) _ rfl w.heap.size 5 i0 _ 1 1 Tryz.underlying56 hi0 hz0 hz1 hz2 rfl (by omega) w b0_ l_ rfl w.heap.size A N c (bts l) rfl hr (xy l) (by unfold maxLen;omega) (by omega) ?_);intro A2 c2 w2 hown2 hb2 hg2 hc2 hm2;go_wp2
 go_loopw [5,6] (fun o m wr=>∃(k:Nat) (A':Option Addr) (c':Nat),k≤8∧o=.slice A' (N+k) c'∧m=.int .i64 (56 - 8 *(k:Int))∧wr.ownsRow w.heap.size 5 1 (.slice A' (N+k) c') (N+k) (bts (l++(e8 n).take k))∧N+k≤c'∧c'≤maxLen∧Below w.heap.size w wr) (fun _ m _=>(intOf m+8).toNat)
 case atStart=>exact⟨0,A2,c2,by omega,rfl,rfl,by simpa using hown2,hc2,hm2,hb2⟩
 case round=>
  obtain⟨k,A',c',hk,rfl,rfl,hown,hc',hm',hb⟩:=hrel;have HO:=H_ hown;clear hown
  by_cases hk8:k < 8
  ·have h0:8 *(k:Int)≤56:=by omega
   go_wp2_with (at_builtin;refine iy ?_);have hbox:Row (wr.heap.size+1) (wr.alloc (.cells #[.int .u8 ((UInt8.ofNat (n / 2 ^ (56 - 8 *k))).toNat:Int)] 5)) (some ⟨wr.heap.size,0,none⟩) 1 1 (bts [UInt8.ofNat (n / 2 ^ (56 - 8 *k))]):=ak3 _ _ _;refine gz (jq rfl (.tmp 13) (.tmp 18) _ rfl w.heap.size 5 i0 _ 1 1 Tryz.underlying56 hi0 hz0 hz1 hz2 rfl (by omega) w (hb.alloc hb.size _) (h_ hb.size (by simp)) _ (N+k) (bts (l++(e8 n).take k)) rfl (HO.out.alloc _) (wr.heap.size+1) _ 1 1 (bts [UInt8.ofNat (n / 2 ^ (56 - 8 *k))]) rfl hbox (xy _) (N+(k+1)) (bts (l++(e8 n).take (k+1))) (by omega) (by rw[zz4 n hk8];simp[bts]) (by unfold maxLen;omega) (by omega) ?_);intro A3 c3 w3 hown3 hb3 _ hc3 hm3;have HO3:=H_ hown3;clear hown3 HO hbox;go_wp2;go_roundw
   case rel=>exact⟨k+1,A3,c3,by omega,rfl,by go_num,HO3.out,hc3,hm3,hb3⟩
   case measure=>simp[intOf];omega
  ·obtain rfl:k=8:=by omega
   have HF:=H_ (show wr.ownsRow w.heap.size 5 1 (.slice A' (N+8) c') (N+8) (bts (l++e8 n)) from HO.out);clear HO;go_wp2;go_ret;exact⟨A',c',rfl,HF.out,hc',hm',hb⟩
theorem iz3 {x:Int} (h0:0≤x) (h1:x≤255):IntKind.u8.wrap x=((UInt8.ofNat x.toNat).toNat:Int):=by
 rw[←bq2];simp only[IntKind.wrap_u8];omega
theorem wx3 (x:It) (hk:x.ok=true) (w:World):
  Calls Tryz.prog 189 #[x.val] w fun e w'=>∃A' c',e=.returned (.slice A' 10 c')∧Row w'.heap.size w' A' 10 1 (bts x.key)∧10≤c'∧c'≤maxLen∧Below w.heap.size w w':=by
 rw[It.fv3]at hk;have e1:=iz3 (x:=x.s) (by omega) (by omega);have e2:=iz3 (x:=x.k) (by omega) (by omega);have ht:x.t < 18446744073709551616:=by omega
 have h8:=fun(W:World) (A:Option Addr) (c:Nat) hr=>yy3 A 2 c [UInt8.ofNat x.s.toNat,UInt8.ofNat x.k.toNat] x.t ht W (by omega) hr;have HK:=H_ (show [UInt8.ofNat x.s.toNat,UInt8.ofNat x.k.toNat] ++e8 x.t=x.key from rfl);unfold It.val;generalize UInt8.ofNat x.s.toNat=u1 at *;generalize UInt8.ofNat x.k.toNat=u2 at *;have hW:=b_ w (.cells #[.int .i64 x.s,.int .i64 x.k,.int .u64 (x.t:Int),.int .u64 (x.v:Int),.int .i64 x.x] 36);have H8:=H_ h8;have HW:=H_ hW;clear h8 hk hW;go_enter Tryz.func189,Tryz.ntmps189;go_wp2_with fail;have hrow:Row ((w.alloc (.cells #[.int .i64 x.s,.int .i64 x.k,.int .u64 (x.t:Int),.int .u64 (x.v:Int),.int .i64 x.x] 36)).alloc (.cells #[.int .u8 (u1.toNat:Int),.int .u8 (u2.toNat:Int)] 5)).heap.size ((w.alloc (.cells #[.int .i64 x.s,.int .i64 x.k,.int .u64 (x.t:Int),.int .u64 (x.v:Int),.int .i64 x.x] 36)).alloc (.cells #[.int .u8 (u1.toNat:Int),.int .u8 (u2.toNat:Int)] 5)) (some ⟨w.heap.size+1,0,none⟩) 2 1 (bts [u1,u2]):=by
  have:=Row.new (w.alloc (.cells #[.int .i64 x.s,.int .i64 x.k,.int .u64 (x.t:Int),.int .u64 (x.v:Int),.int .i64 x.x] 36)) #[.int .u8 (u1.toNat:Int),.int .u8 (u2.toNat:Int)] 5 (n:=2) (size:=1) rfl;simpa [bts] using this
 have hb:=HW.out.alloc HW.out.size (.cells #[.int .u8 (u1.toNat:Int),.int .u8 (u2.toNat:Int)] 5);refine(H8.out _ _ _ hrow).mono ?_;rintro e w2 ⟨A',c',rfl,ho,h1,h2,h3⟩;rw[HK.out]at ho;have HO:=H_ (show Row w2.heap.size w2 A' 10 1 (bts x.key) from Row.own ho);clear ho hrow H8;go_wp2;go_ret;exact⟨A',c',rfl,HO.out,h1,h2,az hb h3⟩
theorem rk4 (x:Int) (h1:-9223372036854775808≤x) (h2:x < 9223372036854775808):
  bits .xor .u64 (IntKind.u64.wrap (IntKind.u64.wrap x *2)) (IntKind.u64.wrap (x / 9223372036854775808))=(sgn x:Int):=by
 have key:∀a b:Nat,a < 2 ^ 64→b < 2 ^ 64→bits .xor .u64 (a:Int) (b:Int)=((BitVec.ofNat 64 a ^^^ BitVec.ofNat 64 b).toNat:Int):=fun a b ha hb=>by
  have:=jk2 (BitVec.ofNat 64 a) (BitVec.ofNat 64 b);rw[BitVec.toNat_ofNat,BitVec.toNat_ofNat,X_ ha,X_ hb]at this;exact this
 unfold sgn;simp only[IntKind.wrap_u64]
 by_cases h0:0≤x
 ·rw[if_pos h0]
  have e1:x / 9223372036854775808 % 18446744073709551616=((0:Nat):Int):=by omega
  have e2:x % 18446744073709551616 *2 % 18446744073709551616=((2 *x).toNat:Int):=by omega
  rw[e1,e2,key _ _ (by omega) (by omega)];simp;omega
 ·rw[if_neg h0]
  have e1:x / 9223372036854775808 % 18446744073709551616=((18446744073709551615:Nat):Int):=by omega
  have e2:x % 18446744073709551616 *2 % 18446744073709551616=((2 *x+18446744073709551616).toNat:Int):=by omega
  rw[e1,e2,key _ _ (by omega) (by omega)];have e3:BitVec.ofNat 64 18446744073709551615=BitVec.allOnes 64:=by decide
  rw[e3,BitVec.xor_allOnes,BitVec.toNat_not,BitVec.toNat_ofNat];omega
theorem qw4 (x:Int) (h1:-9223372036854775808≤x) (h2:x < 9223372036854775808) (w:World):
  Calls Tryz.prog 311 #[.int .i64 x] w fun e w'=>e=.returned (.int .u64 (sgn x:Int))∧w'=w:=by
 go_enter Tryz.func311,Tryz.ntmps311;have HS:=H_ (rk4 x h1 h2);go_wp2;rw[HS.out];go_ret;exact⟨rfl,rfl⟩
end
section
open Go Go.RowKit Go.Lib
theorem dq2 {P:Program} {f:FuncId} {fn:Func} (hf:P.funcs[f]?=some fn) (hname:(fn.name== "runtime.NumGoroutine")=false) (hb:fn.body.isNone=true) (hn:Extern.findNext fn=none)
  (he:Extern.find fn=some (Extern.Atomic.loadT .ptr)) {a:Addr} {x:Option Addr} {w:World} (hc:w.cell? a=some (.pointer x)):
  (callFunc f #[.pointer (some a)]).run P w=.ok (.value (.pointer x)) w:=by
 rw[run_callFunc_extern hf hname hb hn he];change (Sem.run P (do Extern.Atomic.read .ptr (←asAddr (.pointer (some a)))) w).andThen _=_;simp[Extern.Atomic.read,asAddr,hc,Result.andThen]
theorem xk1 {P:Program} {f:FuncId} {fn:Func} (hf:P.funcs[f]?=some fn) (hname:(fn.name== "runtime.NumGoroutine")=false) (hb:fn.body.isNone=true) (hn:Extern.findNext fn=none)
  (he:Extern.find fn=some Extern.Atomic.storeT) {a:Addr} {y:Option Addr} {u:Value} {w:World} (hc:w.cell? a=some u) (hz:w.frozen? a=false):
  (callFunc f #[.pointer (some a),.pointer y]).run P w=.ok (.value (.tuple #[])) (w.setCell a (.pointer y)):=by
 rw[run_callFunc_extern hf hname hb hn he];change (Sem.run P (do
  store (←asAddr (.pointer (some a))) (.pointer y) .atomic
  pure Extern.Atomic.none_) w).andThen _=_
 simp[asAddr,hc,hz,run_store P w a (.pointer y) .atomic rfl,Result.andThen,Extern.Atomic.none_]
theorem ow4 (w:World):(convert 295 279 (.pointer none)).run Tryz.prog w=.ok (.pointer none) w:=by
 have h1:Tryz.prog.underlying 295=some .unsafePointer:=by kernel_rfl
 have h2:Tryz.prog.underlying 279=some (.pointer 300):=by kernel_rfl
 simp[convert,Conv.unsafePointer,run_underlying h1,run_underlying h2,Result.andThen]
theorem ej4 {w:World} {b:Nat} {xs:List Value} (h:BoxO w 300 b xs) (hl:xs.length=6):(convert 295 279 (.pointer (some ⟨b,0,none⟩))).run Tryz.prog w=.ok (.pointer (some ⟨b,0,none⟩)) w:=by
 have h1:Tryz.prog.underlying 295=some .unsafePointer:=by kernel_rfl
 have h2:Tryz.prog.underlying 279=some (.pointer 300):=by kernel_rfl
 have h3:liesAt Tryz.prog Tryz.prog.depth 300 (6 / Tryz.prog.cellsOf 300) 0 300 1=true:=by kernel_rfl
 have h4:w.shape? b=some (300,6):=by
  unfold World.shape?;rw[h];simp[hl]
 simp[convert,Conv.unsafePointer,Conv.seenAt,viewAt,variablesAt,run_underlying h1,run_underlying h2,h4,h3,Result.andThen]
def tk3 (w:World):Option Addr→Prop
 |none=>True
 |some a=>∃b xs,a=⟨b,0,none⟩∧BoxO w 300 b xs∧xs.length=6
theorem dz5 {w:World} {v:Option Addr} (h:tk3 w v):(convert 295 279 (.pointer v)).run Tryz.prog w=.ok (.pointer v) w:=by
 cases v with
 |none=>exact ow4 w
 |some a=>
  obtain⟨b,xs,rfl,h1,h2⟩:=h;exact ej4 h1 h2
theorem xq4 {w:World} {v:Option Addr} (h:tk3 w v):(convert 279 295 (.pointer v)).run Tryz.prog w=.ok (.pointer v) w:=by
 have h1:Tryz.prog.underlying 295=some .unsafePointer:=by kernel_rfl
 have h2:Tryz.prog.underlying 279=some (.pointer 300):=by kernel_rfl
 cases v with
 |none=>simp[convert,Conv.unsafePointer,run_underlying h1,run_underlying h2,Result.andThen]
 |some a=>
  obtain⟨b,xs,rfl,h3,h4⟩:=h;have hc:w.cell? ⟨b,0,none⟩=some (xs[0]'(by omega)):=by rw[h3.cell];exact j_ _
  exact run_convert_to_unsafe (P:=Tryz.prog) h2 h1 (by kernel_rfl) hc
theorem cy1 (g j:Nat) (v:Option Addr) (w:World) (hc:w.cell? ⟨g,j,none⟩=some (.pointer v)) (hv:tk3 w v):
  Calls Tryz.prog 239 #[.pointer (some ⟨g,j,none⟩)] w fun e w'=>e=.returned (.pointer v)∧w'=w:=by
 have hld:=dq2 (P:=Tryz.prog) Tryz.func299 (by kernel_rfl) (by kernel_rfl) (by kernel_rfl) (by kernel_rfl) hc;have hcv:=dz5 hv;go_enter Tryz.func239,Tryz.ntmps239;go_wp2;go_ret;exact⟨rfl,rfl⟩
theorem yx1 (g j:Nat) (u:Value) (v:Option Addr) (w:World) (hc:w.cell? ⟨g,j,none⟩=some u) (hz:w.frozen? ⟨g,j,none⟩=false) (hv:tk3 w v):
  Calls Tryz.prog 240 #[.pointer (some ⟨g,j,none⟩),.pointer v] w fun e w'=>e=.returned (.tuple #[])∧w'=w.setCell ⟨g,j,none⟩ (.pointer v):=by
 have hst:=xk1 (P:=Tryz.prog) Tryz.func300 (by kernel_rfl) (by kernel_rfl) (by kernel_rfl) (by kernel_rfl) (y:=v) hc hz;have hcv:=xq4 hv;go_enter Tryz.func240,Tryz.ntmps240;go_wp2;exact bodyPost_end (v:=.tuple #[]) (by simp[results,go_sem]) rfl ⟨rfl,rfl⟩
end
section
open Go Go.RowKit
theorem kw2 {P:Program} (w:World) (base:Nat) (t ty e:TypeId) (i:TypeInfo) (z:Value) (size bytes:Nat) (ht:P.underlying t=some (.slice e)) (hi:P.info? e=some i) (hz:i.zero=some z)
  (hsize:i.size=size) (hby:i.bytes=bytes) (hzs:z.cells.size=size) (hsz:0 < size) (v:Value) (n:Nat) (xs:List Value) (hown:w.ownsRow base e size v n xs)
  (B:Nat) (A:Option Addr) (m c:Nat) (news:List Value) (hr:Row B w A m size news) (h1:∀u∈news,u.oneCell'=true)
  (h63:n+m≤maxLen) (hbytes:(n+m)*bytes≤140737488355328) (hbase:base≤w.heap.size):
  ∃A' c' w',(Builtin.append_ #[t,t] ty #[v,.slice A m c]).run P w=.ok (.slice A' (n+m) c') w'∧w'.ownsRow base e size (.slice A' (n+m) c') (n+m) (xs++news)∧w.grownBy w' v.ownBlock∧n+m≤c'∧c'≤maxLen∧((Value.slice A' (n+m) c').ownBlock=v.ownBlock∨(Value.slice A' (n+m) c').ownBlock=some w.heap.size):=by
 rcases ad_ m with h0|h0
 ·subst h0
  have hn:news=[]:=bg_ (by simpa using hr.len);subst hn;obtain⟨A',c',rfl,h5,h6,_⟩:=dw hown;rw[aU_];refine⟨A',c',w,?_,hown,⟨rfl,rfl,rfl,x_ _,fun _ _ _=>rfl⟩,h5,h6,.inl rfl⟩
  rcases hown.2 with ⟨hv,rfl⟩|⟨g,cap,cur,hv,_,_,hnc,_⟩
  ·cases hv
   rcases A with _|a<;>simp[Builtin.append_,run_underlying ht,sizeOf,typeInfo,hi,Builtin.lenOf,Builtin.firstCells,loadCells,loadCellsFrom]
  ·cases hv
   rcases A with _|a<;>simp[Builtin.append_,run_underlying ht,sizeOf,typeInfo,hi,Builtin.lenOf,Builtin.firstCells,loadCells,loadCellsFrom,hnc,storeCells]
 ·have hpos:0 < news.length:=by
   rw[hr.len];exact cg_ h0 hsz
  obtain⟨a,rfl,_⟩:=hr.some_ hpos;obtain⟨v',w',h2,h3,h4,_,h6⟩:=run_append_own_at (P:=P) (ty:=ty) w base t e i z size bytes ht hi hz hsize hby hzs hsz v n xs hown a m c news hr.len hr.cells h1 h63 hbytes hbase;obtain⟨A',c',rfl,h5,h7,_⟩:=dw h3;exact⟨A',c',w',h2,h3,h4,h5,h7,h6⟩
theorem bk3 {P:Program} {w:World} {ops:Array Oper} {rest:List Oper} {o:Oper} {a:Act} {Q:Exit→Act→World→Prop} (hgd:o.guard=none) (s x:Operand) (t:TypeId)
  (ho:o.op=.call { callee:=.builtin .append,args:=#[s,x],argTypes:=#[t,t] })
  (base:Nat) (e:TypeId) (i:TypeInfo) (z:Value) (size bytes:Nat) (ht:P.underlying t=some (.slice e)) (hi:P.info? e=some i) (hz:i.zero=some z)
  (hsize:i.size=size) (hby:i.bytes=bytes) (hzs:z.cells.size=size) (hsz:0 < size) (hbase:base≤w.heap.size) (v:Value) (n:Nat) (xs:List Value) (hs:a.eval s=v) (hown:w.ownsRow base e size v n xs)
  (B:Nat) (A:Option Addr) (m c:Nat) (news:List Value) (hx:a.eval x=.slice A m c) (hr:Row B w A m size news) (h1:∀u∈news,u.oneCell'=true)
  (N:Nat) (X:List Value) (hN:n+m=N) (hX:xs++news=X) (h63:N≤maxLen) (hbytes:N *bytes≤140737488355328)
  (h:∀A' c' w',w'.ownsRow base e size (.slice A' N c') N X→w.grownBy w' v.ownBlock→N≤c'→c'≤maxLen→((Value.slice A' N c').ownBlock=v.ownBlock∨(Value.slice A' N c').ownBlock=some w.heap.size)→wpList P ops Q rest (a.put o.dst (.slice A' N c')) w'):wpList P ops Q (o::rest) a w:=by
 subst hN;subst hX;obtain⟨A',c',w',hrun,h3,h4,h5,h7,h6⟩:=kw2 (P:=P) w base t o.type e i z size bytes ht hi hz hsize hby hzs hsz v n xs hown B A m c news hr h1 h63 hbytes hbase;refine wpList_plain hgd fun _ hK=>?_;unfold Oper.wp execOp;simp only[ho,resolve,invoke,builtin,Sem.run_bind,Sem.run_pure,Result.andThen_ok,by_,aw_,bb_,hs,hx,hrun];exact hK _ _ (h A' c' w' h3 h4 h5 h7 h6)
end
section
open Go Go.RowKit Go.Lib
theorem rx4:(Tryz.prog.info? 297).map (fun i=>(i.zero.map (·.cells),i.size,i.bytes))=some (some #[.pointer none],1,8):=by kernel_rfl
theorem rz3 (h:Nat) (h6:h≤6):∃cs:Array Value,cs.toList=List.replicate h (.pointer none)∧∀W:World,(Instr.makeSlice 298 (.int .i64 (h:Int)) (.int .i64 (h:Int))).run Tryz.prog W=.ok (.slice (some ⟨W.heap.size,0,none⟩) h h) (W.alloc (.cells cs 297)):=by
 obtain⟨i,hi,hz⟩:=bN_.1 rx4;simp only[bK_]at hz;obtain⟨hz0,hz1,hz2⟩:=hz;obtain⟨z,hz3,hz4⟩:=bN_.1 hz0;refine⟨madeCells #[.pointer none] h,toList_madeCells_one _ h,fun W=>?_⟩;have hr:=run_make (P:=Tryz.prog) W 298 297 i z Tryz.underlying298 hi hz3 .i64 .i64 h h (by omega) (by omega) (by rw[hz2];omega) (by omega);simpa [hz1,hz4] using hr
theorem gq4 {w W:World} {g:Nat} (hb:Below w.heap.size w W) (x:It) (h:Nat) (cs:Array Value) (hcs:cs.toList=List.replicate h (.pointer none)) (hg:W.heap.size=g):
  BoxO ((W.alloc (.cells cs 297)).alloc (.cells #[.int .i64 x.s,.int .i64 x.k,.int .u64 (x.t:Int),.int .u64 (x.v:Int),.int .i64 x.x,.slice (some ⟨g,0,none⟩) h h] 300)).drew 300 (g+1) (x.cells++[.slice (some ⟨g,0,none⟩) h h])∧
  BoxO ((W.alloc (.cells cs 297)).alloc (.cells #[.int .i64 x.s,.int .i64 x.k,.int .u64 (x.t:Int),.int .u64 (x.v:Int),.int .i64 x.x,.slice (some ⟨g,0,none⟩) h h] 300)).drew 297 g (List.replicate h (.pointer none))∧g+1≠g∧w.heap.size≤g+1∧w.heap.size≤g∧Below w.heap.size w ((W.alloc (.cells cs 297)).alloc (.cells #[.int .i64 x.s,.int .i64 x.k,.int .u64 (x.t:Int),.int .u64 (x.v:Int),.int .i64 x.x,.slice (some ⟨g,0,none⟩) h h] 300)).drew:=by
 have h1:(W.alloc (.cells cs 297)).heap.size=W.heap.size+1:=by simp
 have h2:=hb.size;have h3:BoxO (W.alloc (.cells cs 297)) 297 W.heap.size (List.replicate h (.pointer none)):=hcs▸BoxO.new W cs 297;subst hg;exact⟨by rw[←h1];exact(BoxO.new _ _ _).drew,(h3.alloc _).drew,by omega,by omega,h2,ak ((hb.alloc h2 _).alloc (by omega) _)⟩
theorem xk2 (x:It) (h:Nat) (w:World) (h1:1≤h) (h6:h≤6):
  Calls Tryz.prog 232 #[x.val,.int .i64 (h:Int)] w fun e w'=>∃b tb,e=.returned (.pointer (some ⟨b,0,none⟩))∧BoxO w' 300 b (x.cells++[.slice (some ⟨tb,0,none⟩) h h])∧BoxO w' 297 tb (List.replicate h (.pointer none))∧b≠tb∧w.heap.size≤b∧w.heap.size≤tb∧Below w.heap.size w w':=by
 obtain⟨cs,hcs,hmk⟩:=rz3 h h6;have hb1:(1:Int)≤(h:Int):=by omega
 have hb6:(h:Int)≤6:=by omega
 unfold It.val;go_enter Tryz.func232,Tryz.ntmps232;go_wp2_with fail
 go_region
 all_goals go_wp2
 all_goals go_ret
 all_goals
  have hm:=gq4 (g:=w.heap.size+1) (b_ w (.cells #[.int .i64 x.s,.int .i64 x.k,.int .u64 (x.t:Int),.int .u64 (x.v:Int),.int .i64 x.x] 36)) x h cs hcs (by simp);exact⟨_,_,rfl,hm⟩
structure SkC (w:World) (ns:List Nd):Prop where
 node:∀n∈ns,BoxO w 300 n.b (n.x.cells++[.slice (some ⟨n.tb,0,none⟩) n.c n.c])
 tower:∀(i:Nat) (n:Nd),ns[i]?=some n→∃cs,BoxO w 297 n.tb cs∧cs.length=n.c∧∀l,l < n.h→cs[l]?=some (.pointer ((nxb l (ns.drop (i+1))).map fun b=>⟨b,0,none⟩))
 cap:∀n∈ns,n.h≤n.c∧n.c≤6
 apart:(ns.flatMap fun n=>[n.b,n.tb]).Nodup
structure SkAt (w:World) (L:Nat) (ns:List Nd):Prop where
 core:SkC w ns
 head:∃hd tl,ns=hd::tl∧hd.h=6∧BoxO w 282 L [.pointer (some ⟨hd.b,0,none⟩),.int .i64 (tl.length:Int)]
 out:L∉ns.flatMap fun n=>[n.b,n.tb]
 tall:∀n∈ns,1≤n.h
 rises:uq (its ns)
def skF (L:Nat) (ns:List Nd):List Nat:=L::ns.flatMap fun n=>[n.b,n.tb]
def bk (ns:List Nd) (j:Nat):Nat:=((ns[j]?).map (·.b)).getD 0
def pv (ns:List Nd) (j:Nat):Value:=.pointer (some ⟨bk ns j,0,none⟩)
theorem zz3 {ns:List Nd} {j:Nat} {n:Nd} (h:ns[j]?=some n):bk ns j=n.b:=by simp[bk,h]
variable {w w':World} {L:Nat} {ns:List Nd}
theorem SkC.chg {F:List Nat} (h:SkC w ns) (c:Chg F w w') (hF:∀g∈ns.flatMap (fun n=>[n.b,n.tb]),g∉F):SkC w' ns:=
 ⟨fun n hn=>(h.node n hn).chg c (hF _ (O_.2 ⟨n,hn,by simp⟩)),fun i n hi=>let ⟨cs,a,b,d⟩:=h.tower i n hi;⟨cs,a.chg c (hF _ (O_.2 ⟨n,p_ hi,by simp⟩)),b,d⟩,h.cap,h.apart⟩
theorem SkAt.chg {F:List Nat} (h:SkAt w L ns) (c:Chg F w w') (hF:∀g∈skF L ns,g∉F):SkAt w' L ns:=
 ⟨h.core.chg c (fun g hg=>hF g (f_ _ hg)),let ⟨hd,tl,a,b,d⟩:=h.head;⟨hd,tl,a,b,d.chg c (hF L m_)⟩,h.out,h.tall,h.rises⟩
theorem SkAt.below (h:SkAt w L ns) (c:Below w.heap.size w w'):SkAt w' L ns:=h.chg (Chg.of_below c []) (fun _ _=>by simp)
theorem SkC.below (h:SkC w ns) (c:Below w.heap.size w w'):SkC w' ns:=h.chg (Chg.of_below c []) (fun _ _=>by simp)
theorem ev3 {l b:Nat} {r:List Nd} (h:nxb l r=some b):∃n,nxt l r=some n∧n.b=b:=by
 unfold nxb at h;exact bN_.1 h
theorem sz4 {l:Nat} {r:List Nd} (h:nxb l r=none):nxt l r=none:=by
 unfold nxb at h;exact Option.map_eq_none_iff.1 h
theorem SkC.ptr (h:SkC w ns) (l i:Nat):tk3 w ((nxb l (ns.drop i)).map fun b=>⟨b,0,none⟩):=by
 cases e:nxb l (ns.drop i) with
 |none=>exact trivial
 |some b=>
  obtain⟨n,h1,rfl⟩:=ev3 e;have hm:n∈ns:=bS_ (List.mem_of_find?_eq_some h1);exact⟨_,_,rfl,h.node n hm,rfl⟩
theorem SkC.look (h:SkC w ns) {i l:Nat} {n:Nd} (hi:ns[i]?=some n) (hl:l < n.h):
  w.cell? ⟨n.b,5,none⟩=some (.slice (some ⟨n.tb,0,none⟩) n.c n.c)∧(w.cell? ⟨n.tb,l,none⟩=some (.pointer ((nxb l (ns.drop (i+1))).map fun b=>⟨b,0,none⟩))∧w.frozen? ⟨n.tb,l,none⟩=false)∧l < n.c∧n.c≤6:=by
 have hm:=p_ hi;obtain⟨cs,h1,h2,h3⟩:=h.tower i n hi;have h4:=h.cap n hm;refine⟨by rw[(h.node n hm).cell];rfl,⟨by rw[h1.cell];exact h3 l hl,h1.free l⟩,by omega,h4.2⟩
def rk (ns:List Nd):Value→Nat
 |.pointer (some a)=>ns.length - ns.findIdx (fun n=>n.b==a.block)
 |_=>0
theorem SkC.inj (h:SkC w ns) {i j:Nat} {n m:Nd} (hi:ns[i]?=some n) (hj:ns[j]?=some m) (hb:n.b=m.b):i=j:=by
 have key:∀(ns:List Nd) (i j:Nat) (n m:Nd),(ns.flatMap fun n=>[n.b,n.tb]).Nodup→ns[i]?=some n→ns[j]?=some m→n.b=m.b→i=j:=by
  intro ns
  induction ns with
  |nil=>intro i j n m _ hi;simp at hi
  |cons a r ih=>
   intro i j n m hd hi hj hb;simp only[M_,N_,y_,a3_,g_,not_or]at hd;obtain⟨⟨_,h2⟩,_,h4⟩:=hd;have hin:∀(k:Nat) (u:Nd),r[k]?=some u→u.b≠a.b:=fun k u hu e=>h2 (O_.2 ⟨u,p_ hu,by simp[e]⟩)
   cases i with
   |zero=>
    cases j with
    |zero=>rfl
    |succ j=>
     simp only[gE0,ax_,gE1]at hi hj;subst hi;exact absurd hb.symm (hin j m hj)
   |succ i=>
    cases j with
    |zero=>
     simp only[gE0,ax_,gE1]at hi hj;subst hj;exact absurd hb (hin i n hi)
    |succ j=>
     simp only[gE1]at hi hj;rw[ih i j n m h4 hi hj hb]
 exact key ns i j n m h.apart hi hj hb
theorem SkC.rk (h:SkC w ns) {i:Nat} {n:Nd} (hi:ns[i]?=some n):rk ns (.pointer (some ⟨n.b,0,none⟩))=ns.length - i:=by
 unfold Go.Proofs.YthjdpplgfdihoaaGreatDoor.rk;have hl:i < ns.length:=(G_.1 hi).1;have h1:ns.findIdx (fun m=>m.b==n.b) < ns.length:=List.findIdx_lt_length_of_exists ⟨n,p_ hi,by simp⟩;have h2:(ns[ns.findIdx (fun m=>m.b==n.b)]).b=n.b:=by
  have:=bq_ (w:=h1);simpa using this
 have:=h.inj (j_ h1) hi h2;simp only;omega
end
section
namespace It
def tks:Nat→List UInt8→Option (List Nat×List UInt8)
 |0,b=>some ([],b)
 |k+1,b=>match tks k b with
  |none=>none
  |some (ns,r)=>if (Pn.take r).2.2=0 then some (ns++[(Pn.take r).1],r.drop (Pn.take r).2.1) else none
def vz1:It:=⟨0,0,0,0,0⟩
theorem kj2 (b:List UInt8):take1 b=if b.length < 2 then (vz1,[],4) else
  if (Pn.take (b.drop 2)).2.2=0 then
   if (Pn.take ((b.drop 2).drop (Pn.take (b.drop 2)).2.1)).2.2=0 then
    if (Pn.take (((b.drop 2).drop (Pn.take (b.drop 2)).2.1).drop (Pn.take ((b.drop 2).drop (Pn.take (b.drop 2)).2.1)).2.1)).2.2=0 then
     (⟨Fr.u b 0,Fr.u b 1,(Pn.take (b.drop 2)).1,(Pn.take ((b.drop 2).drop (Pn.take (b.drop 2)).2.1)).1,mx1 (Pn.take (((b.drop 2).drop (Pn.take (b.drop 2)).2.1).drop (Pn.take ((b.drop 2).drop (Pn.take (b.drop 2)).2.1)).2.1)).1⟩,
      (((b.drop 2).drop (Pn.take (b.drop 2)).2.1).drop (Pn.take ((b.drop 2).drop (Pn.take (b.drop 2)).2.1)).2.1).drop (Pn.take (((b.drop 2).drop (Pn.take (b.drop 2)).2.1).drop (Pn.take ((b.drop 2).drop (Pn.take (b.drop 2)).2.1)).2.1)).2.1,0)
    else (vz1,[],(Pn.take (((b.drop 2).drop (Pn.take (b.drop 2)).2.1).drop (Pn.take ((b.drop 2).drop (Pn.take (b.drop 2)).2.1)).2.1)).2.2)
   else (vz1,[],(Pn.take ((b.drop 2).drop (Pn.take (b.drop 2)).2.1)).2.2)
  else (vz1,[],(Pn.take (b.drop 2)).2.2):=by
 unfold take1;split
 ·rfl
 ·generalize b.drop 2=r1
  generalize hp:Pn.take r1=p;obtain⟨t,n1,e1⟩:=p
  match e1 with
  |e+1=>rfl
  |0=>
   simp only[if_true];generalize r1.drop n1=r2;generalize hp2:Pn.take r2=p2;obtain⟨v,n2,e2⟩:=p2
   match e2 with
   |e+1=>rfl
   |0=>
    simp only[if_true];generalize r2.drop n2=r3;generalize hp3:Pn.take r3=p3;obtain⟨x,n3,e3⟩:=p3
    match e3 with
    |e+1=>rfl
    |0=>rfl
variable {b r:List UInt8} {ns:List Nat} {k:Nat}
theorem sj1:∀{k:Nat} {ns:List Nat} {r:List UInt8},tks k b=some (ns,r)→ns.length=k
 |0,ns,r,h=>by
  simp only[tks,ax_,bK_]at h;rw[←h.1];rfl
 |k+1,ns,r,h=>by
  unfold tks at h;split at h
  ·cases h
  ·rename_i ms q hq
   split at h
   ·simp only[ax_,bK_]at h
    rw[←h.1,e_,sj1 hq];rfl
   ·cases h
theorem lj4 (h:tks k b=some (ns,r)) (he:(Pn.take r).2.2=0):tks (k+1) b=some (ns++[(Pn.take r).1],r.drop (Pn.take r).2.1):=by
 unfold tks;rw[h];simp only;rw[if_pos he]
theorem gq1 {n:Nat} {q:List UInt8} (h:tks (k+1) b=some (ns,r)):∃ms q,tks k b=some (ms,q)∧(Pn.take q).2.2=0∧ns=ms++[(Pn.take q).1]∧r=q.drop (Pn.take q).2.1:=by
 unfold tks at h;split at h
 ·cases h
 ·rename_i ms q hq
  split at h
  ·rename_i he
   simp only[ax_,bK_]at h;exact⟨ms,q,hq,he,h.1.symm,h.2.symm⟩
  ·cases h
theorem ny1 (h:tks 0 b=some (ns,r)):ns=[]∧r=b:=by
 simp only[tks,ax_,bK_]at h;exact⟨h.1.symm,h.2.symm⟩
theorem dv4 (h2:¬b.length < 2) (hk:k < 3) (h:tks k (b.drop 2)=some (ns,r)) (he:(Pn.take r).2.2≠0):take1 b=(vz1,[],(Pn.take r).2.2):=by
 rw[kj2,if_neg h2];have e:k=0∨k=1∨k=2:=by omega
 rcases e with rfl|rfl|rfl
 ·obtain⟨_,rfl⟩:=ny1 h
  rw[if_neg he]
 ·obtain⟨ms,q,h1,e1,_,rfl⟩:=gq1 (n:=0) (q:=[]) h
  obtain⟨_,rfl⟩:=ny1 h1;rw[if_pos e1,if_neg he]
 ·obtain⟨ms,q,h1,e1,_,rfl⟩:=gq1 (n:=0) (q:=[]) h
  obtain⟨ms,q,h3,e3,_,rfl⟩:=gq1 (n:=0) (q:=[]) h1;obtain⟨_,rfl⟩:=ny1 h3;rw[if_pos e3,if_pos e1,if_neg he]
theorem rq3 (h2:¬b.length < 2) (h:tks 3 (b.drop 2)=some (ns,r)):take1 b=(⟨Fr.u b 0,Fr.u b 1,ns.getD 0 0,ns.getD 1 0,mx1 (ns.getD 2 0)⟩,r,0):=by
 rw[kj2,if_neg h2];obtain⟨ms,q,h1,e1,rfl,rfl⟩:=gq1 (n:=0) (q:=[]) h;obtain⟨ms,q,h3,e3,rfl,rfl⟩:=gq1 (n:=0) (q:=[]) h1;obtain⟨ms,q,h4,e4,rfl,rfl⟩:=gq1 (n:=0) (q:=[]) h3;obtain⟨rfl,rfl⟩:=ny1 h4;rw[if_pos e4,if_pos e3,if_pos e1];rfl
theorem ty3 (n:Nat) (b:List UInt8) (out:List It):takes (n+1) b out=if (take1 b).2.2=0 then takes n (take1 b).2.1 (out++[(take1 b).1]) else ([],[],(take1 b).2.2):=by
 rw[takes];generalize take1 b=p;obtain⟨x,s,e⟩:=p
 match e with
 |0=>rfl
 |e+1=>rfl
theorem cx5 (b:List UInt8):read b=if (Pn.take b).2.2=0 then (if 2000 < (Pn.take b).1 then ([],2) else if (takes (Pn.take b).1 (b.drop (Pn.take b).2.1) []).2.2=0 then (if (takes (Pn.take b).1 (b.drop (Pn.take b).2.1) []).2.1=[]∧(takes (Pn.take b).1 (b.drop (Pn.take b).2.1) []).1.all ok=true then ((takes (Pn.take b).1 (b.drop (Pn.take b).2.1) []).1,0) else ([],3)) else ([],(takes (Pn.take b).1 (b.drop (Pn.take b).2.1) []).2.2)) else ([],(Pn.take b).2.2):=by
 unfold read;generalize Pn.take b=p;obtain⟨n,s,e⟩:=p
 match e with
 |e+1=>rfl
 |0=>
  simp only[if_true];generalize takes n (b.drop s) []=q;obtain⟨o,r,e⟩:=q
  match e with
  |0=>rfl
  |e+1=>rfl
end It
end
end Go.Proofs.YthjdpplgfdihoaaGreatDoor
