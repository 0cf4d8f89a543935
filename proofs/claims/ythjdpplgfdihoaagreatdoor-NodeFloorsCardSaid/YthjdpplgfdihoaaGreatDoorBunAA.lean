/- Texts PlainDisk, PlainName, Tk, Mem, Chg, Box, AppF, PlainSum, Bits, SumA, Seal, Disk in one. No conditions. -/
import Derived.Maps.Views
import Derived.RowKit
import Derived.Lib.AtoiAll
import Derived.Lib.ItoaNum
import Derived.Lib.Strings
import Derived.OrdersHeld
import Derived.ProofKit
import Derived.Maps.AppendAt
import Derived.Deep.AppendLies
import Derived.Deep.Draws
import Derived.Laws.OwnMore
import Derived.Laws.BytesString
import Derived.Below
import Derived.OwnWalk
import Derived.Laws.BitsAllLaws
import Derived.Laws.BitsLemmas
import Derived.Test.YthjdpplgfdihoaaGreatDoorRows
import Derived.Lib.Hide
import Derived.WalkKit
import Derived.WalkSpells
import Derived.WalkLawsBesides
import Derived.Maps.OwnSet

set_option linter.unusedSimpArgs false
set_option linter.unusedVariables false
set_option maxRecDepth 100000
set_option maxHeartbeats 16000000
namespace Go.Proofs.YthjdpplgfdihoaaGreatDoor
section
open Go Go.RowKit
abbrev Nm:=List (List UInt8×Nat)
namespace Nm
def get (m:Nm) (s:List UInt8):Option Nat:=(m.find? fun p=>p.1==s).map (·.2)
def ins (x:List UInt8×Nat):Nm→Nm
 |[]=>[x]
 |y::r=>if bytesBefore x.1 y.1 then x::y::r else y::ins x r
def del (m:Nm) (s:List UInt8):Nm:=m.filter fun p=>!(p.1==s)
def put (m:Nm) (s:List UInt8) (i:Nat):Nm:=ins (s,i) (del m s)
def lit1 (p:List UInt8×Nat):Lit×DataW Unit:=(.string p.1,.lit (.int .i64 (p.2:Int)))
def enc (m:Nm):DataW Unit:=.map (m.map lit1)
def Apart (m:Nm):Prop:=m.Pairwise fun p q=>p.1≠q.1
theorem ry3 (x:List UInt8×Nat):∀m:Nm,DataW.insert (lit1 x) (m.map lit1)=(ins x m).map lit1
 |[]=>rfl
 |y::r=>by
  have ih:=ry3 x r;simp only[List.map_cons,DataW.insert,ins];have e:(lit1 x).1.before (lit1 y).1=bytesBefore x.1 y.1:=rfl;rw[e];split
  ·simp
  ·simp[ih]
theorem dy2 (s:List UInt8) (m:Nm):(m.map lit1).filter (fun p=>!p.1.sameKey (.string s))=(del m s).map lit1:=by
 induction m with
 |nil=>rfl
 |cons y r ih=>
  have e:(lit1 y).1.sameKey (.string s)=(y.1==s):=rfl;simp only[List.map_cons,List.filter_cons,e,del]at ih ⊢;split<;>simp_all
theorem zv3 (m:Nm) (s:List UInt8):(enc m).del (.string s)=enc (del m s):=by
 unfold enc DataW.del;simp only;rw[dy2]
theorem mq2 (m:Nm) (s:List UInt8) (i:Nat):(enc m).put (.string s) (.lit (.int .i64 (i:Int)))=enc (put m s i):=by
 unfold enc DataW.put put;simp only;rw[dy2,←ry3];rfl
theorem kq2 (s:List UInt8) (m:Nm):(m.map lit1).find? (fun p=>p.1.sameKey (.string s))=(m.find? fun p=>p.1==s).map lit1:=by
 induction m with
 |nil=>rfl
 |cons y r ih=>
  have e:(lit1 y).1.sameKey (.string s)=(y.1==s):=rfl;simp only[List.map_cons,List.find?_cons,e];split<;>simp_all
theorem zz1 (m:Nm) (s:List UInt8):Maps.has (enc m) (.string s)=(get m s).isSome:=by
 unfold enc get;have e:(m.map lit1).any (fun p=>p.1.sameKey (.string s))=((m.map lit1).find? (fun p=>p.1.sameKey (.string s))).isSome:=by
  rw[Bool.eq_iff_iff,List.find?_isSome,List.any_eq_true]
 rw[Maps.has_eq,e,kq2];simp
theorem ox2 (m:Nm) (s:List UInt8) (z:DataW Unit) {i:Nat} (h:get m s=some i):(enc m).atKey (.string s) z=.lit (.int .i64 (i:Int)):=by
 unfold enc DataW.atKey;simp only;rw[kq2];unfold get at h
 cases hf:m.find? (fun p=>p.1==s) with
 |none=>rw[hf]at h;cases h
 |some p=>rw[hf]at h;simp at h;simp[lit1,h]
theorem uw1 (m:Nm):Maps.size (enc m)=m.length:=by simp[enc,Maps.size_eq]
theorem get_mem {m:Nm} {s:List UInt8} {i:Nat} (h:get m s=some i):(s,i)∈m:=by
 unfold get at h
 cases hf:m.find? (fun p=>p.1==s) with
 |none=>rw[hf]at h;cases h
 |some p=>
  rw[hf]at h;have h1:=List.mem_of_find?_eq_some hf;have h2:=List.find?_some hf;simp at h h2;subst h;subst h2;exact h1
theorem wx2 {x y:List UInt8×Nat}:∀{m:Nm},y∈ins x m↔y=x∨y∈m
 |[]=>by simp[ins]
 |z::r=>by
  have ih:=@wx2 x y r;simp only[ins];split
  ·simp
  ·simp[ih,or_left_comm]
theorem vw {m:Nm} {s:List UInt8} {p:List UInt8×Nat}:p∈del m s↔p∈m∧p.1≠s:=by simp[del]
theorem kz {m:Nm} {s:List UInt8} {i:Nat} {p:List UInt8×Nat}:p∈put m s i↔p=(s,i)∨(p∈m∧p.1≠s):=by rw[put,wx2,vw]
theorem sz1 {m:Nm} (h:Apart m) {s:List UInt8} {i:Nat} (hm:(s,i)∈m):get m s=some i:=by
 unfold Apart at h
 induction m with
 |nil=>cases hm
 |cons y r ih=>
  obtain⟨h1,h2⟩:=List.pairwise_cons.1 h;unfold get;rw[List.find?_cons]
  rcases List.mem_cons.1 hm with rfl|hm
  ·simp
  ·have:=h1 _ hm
   simp only at this;rw[show (y.1==s)=false from by simpa using this];exact ih h2 hm
theorem dj2 (x:List UInt8×Nat):∀m:Nm,(ins x m).length=m.length+1
 |[]=>rfl
 |y::r=>by
  simp only[ins];split
  ·simp
  ·simp[dj2 x r]
theorem pw1 {m:Nm} (h:Apart m) (s:List UInt8):Apart (del m s):=List.Pairwise.filter _ h
theorem nv2 {x:List UInt8×Nat}:∀{m:Nm},Apart m→(∀p∈m,p.1≠x.1)→Apart (ins x m)
 |[],_,_=>by simp[ins,Apart]
 |y::r,h,hx=>by
  obtain⟨h1,h2⟩:=List.pairwise_cons.1 h;simp only[ins];split
  ·exact List.pairwise_cons.2 ⟨fun p hp=>fun e=>hx p hp e.symm,h⟩
  ·refine List.pairwise_cons.2 ⟨fun p hp=>?_,nv2 h2 (fun p hp=>hx p (by simp[hp]))⟩
   rcases wx2.1 hp with rfl|hp
   ·exact hx y (by simp)
   ·exact h1 p hp
theorem ax1 {m:Nm} (h:Apart m) (s:List UInt8) (i:Nat):Apart (put m s i):=nv2 (pw1 h s) (fun _ hp=>(vw.1 hp).2)
theorem get_none {m:Nm} {s:List UInt8}:get m s=none↔∀p∈m,p.1≠s:=by
 unfold get;simp
theorem tj1 (m:Nm) (s:List UInt8):get (del m s) s=none:=get_none.2 fun _ hp=>(vw.1 hp).2
theorem cy1 {m:Nm} (h:Apart m) {s t:List UInt8} (hne:t≠s):get (del m s) t=get m t:=by
 cases hg:get m t with
 |none=>exact get_none.2 fun p hp=>get_none.1 hg p (vw.1 hp).1
 |some i=>exact sz1 (pw1 h s) (vw.2 ⟨get_mem hg,hne⟩)
theorem zk {m:Nm} (h:Apart m) (s:List UInt8) (i:Nat):get (put m s i) s=some i:=sz1 (ax1 h s i) (kz.2 (.inl rfl))
theorem nz {m:Nm} (h:Apart m) {s t:List UInt8} (hne:t≠s) (i:Nat):get (put m s i) t=get m t:=by
 cases hg:get m t with
 |none=>
  refine get_none.2 fun p hp=>?_
  rcases kz.1 hp with rfl|⟨hp,_⟩
  ·exact fun e=>hne e.symm
  ·exact get_none.1 hg p hp
 |some j=>exact sz1 (ax1 h s i) (kz.2 (.inr ⟨get_mem hg,hne⟩))
theorem gq1 (m:Nm) (s:List UInt8):(del m s).length≤m.length:=List.length_filter_le _ _
theorem ik1 {m:Nm} {s:List UInt8} {i:Nat} (h:get m s=some i):(del m s).length < m.length:=by
 have hm:=get_mem h;unfold del;refine List.length_filter_lt_length_iff_exists.2 ⟨_,hm,by simp⟩
theorem av1 (m:Nm) (s:List UInt8) (i:Nat):(put m s i).length≤m.length+1:=by
 rw[put,dj2];have:=gq1 m s;omega
end Nm
structure Tn where
 kind:Nat
 file:Nat
 a:List UInt8
 b:List UInt8
def Tn.go (t:Tn) (m:Nm):Nm:=
 if t.kind=1 then m.put t.a t.file
 else if t.kind=2 then match m.get t.a with
  |some i=>(m.put t.b i).del t.a
  |none=>m
 else if t.kind=3 then m.del t.a
 else m
structure Sd where
 quota:Nat
 files:List (List UInt8×Nat)
 names:Nm
 lasted:Nm
 turns:List Tn
 calls:Int
 dead:Bool
 stop:Nat
 fail:Nat
namespace Sd
variable (d:Sd)
def okCh (c:UInt8):Bool:=(decide (97≤c.toNat) &&decide (c.toNat≤122))||(decide (48≤c.toNat) &&decide (c.toNat≤57))||decide (c.toNat=46)
def named (s:List UInt8):Bool:=decide (1≤s.length) &&decide (s.length≤16) &&s.all okCh
def new (quota:Int):Sd:=⟨quota.toNat,[],[],[],[],0,false,0,0⟩
def call (names:List (List UInt8)):Sd×Nat:=
 if names.all named=false then (d,10)
 else
  let d1:={ d with calls:=wrap64 (d.calls+1) }
  if d.dead=true then (d1,50)
  else
   let d2:=if 0 < d.stop then { d1 with stop:=d.stop - 1,dead:=decide (d.stop - 1=0) } else d1
   if 0 < d.fail then
    let d3:={ d2 with fail:=d.fail - 1 }
    if d.fail - 1=0 then (d3,15) else (d3,0)
   else (d2,0)
def size (i:Nat):Nat:=(d.files.getD i ([],0)).1.length
def used:Nat:=(d.names.map fun p=>d.size p.2).sum
def create (s:List UInt8):Sd×Nat:=
 let c:=d.call [s]
 if c.2≠0 then c
 else if (d.names.get s).isSome then (c.1,12)
 else if 64≤d.names.length then (c.1,65)
 else ({ c.1 with names:=d.names.put s d.files.length,turns:=d.turns++[⟨1,d.files.length,s,[]⟩],files:=d.files++[([],0)] },0)
def append (s b:List UInt8):Sd×Nat:=
 let c:=d.call [s]
 if c.2≠0 then c
 else match d.names.get s with
  |none=>(c.1,11)
  |some i=>
   if 250000 < b.length∨250000 < d.size i+b.length then (c.1,2)
   else if d.quota < d.used+b.length then (c.1,15)
   else ({ c.1 with files:=d.files.set i ((d.files.getD i ([],0)).1++b,(d.files.getD i ([],0)).2) },0)
def read (s:List UInt8):List UInt8×Nat:=
 if named s=false then ([],10)
 else if d.dead=true then ([],50)
 else match d.names.get s with
  |none=>([],11)
  |some i=>((d.files.getD i ([],0)).1,0)
def sync (s:List UInt8):Sd×Nat:=
 let c:=d.call [s]
 if c.2≠0 then c
 else match d.names.get s with
  |none=>(c.1,11)
  |some i=>({ c.1 with files:=d.files.set i ((d.files.getD i ([],0)).1,d.size i) },0)
def rename (a b:List UInt8):Sd×Nat:=
 let c:=d.call [a,b]
 if c.2≠0 then c
 else if (d.names.get a).isNone then (c.1,11)
 else if a=b then (c.1,0)
 else ({ c.1 with names:=Tn.go ⟨2,0,a,b⟩ d.names,turns:=d.turns++[⟨2,0,a,b⟩] },0)
def remove (s:List UInt8):Sd×Nat:=
 let c:=d.call [s]
 if c.2≠0 then c
 else if (d.names.get s).isNone then (c.1,11)
 else ({ c.1 with names:=Tn.go ⟨3,0,s,[]⟩ d.names,turns:=d.turns++[⟨3,0,s,[]⟩] },0)
def ax:Sd×Nat:=
 let c:=d.call []
 if c.2≠0 then c
 else ({ c.1 with lasted:=d.names,turns:=[] },0)
def list:List (List UInt8):=if d.dead=true then [] else (d.names.map (·.1)).mergeSort fun x y=>decide (x≤y)
def aw1 (i:Nat):Bool:=(d.turns.any fun t=>decide (t.kind=1) &&decide (t.file=i))||(d.names.any fun p=>decide (p.2=i))||(d.lasted.any fun p=>decide (p.2=i))
def led:List Nat:=(List.range d.files.length).filter d.aw1
def next (keep:List Int) (none_:Int):Int×List Int:=match keep with
 |[]=>(none_,[])
 |n::r=>(n,r)
def kept (n:Nat) (x:Int):Nat:=(x % (n+1:Int)).toNat
def cutFiles:List Nat→List (List UInt8×Nat)→List Int→List (List UInt8×Nat)×List Int
 |[],fs,keep=>(fs,keep)
 |i::r,fs,keep=>
  let f:=fs.getD i ([],0)
  let n:=f.1.length - f.2
  if n=0 then cutFiles r fs keep
  else
   let x:=next keep n
   let b:=f.1.take (f.2+kept n x.1)
   cutFiles r (fs.set i (b,b.length)) x.2
def doTurns:List Tn→Nm→List Int→Nm
 |[],m,_=>m
 |t::r,m,keep=>
  let x:=next keep 0
  doTurns r (if x.1 % 2=0 then t.go m else m) x.2
def xk (keep:List Int):Sd:=
 let c:=cutFiles d.led d.files keep
 let m:=doTurns d.turns d.lasted c.2
 { d with files:=c.1,names:=m,lasted:=m,turns:=[],dead:=false,stop:=0,fail:=0 }
def load:Nat:=d.files.length+d.turns.length
def fz1 (m:Nm) (n:Nat):Prop:=∀p∈m,p.2 < n
structure Wf:Prop where
 quota:d.quota≤1099511627776
 file:∀i (h:i < d.files.length),d.files[i].2≤d.files[i].1.length∧d.files[i].1.length≤250000
 names:fz1 d.names d.files.length
 lasted:fz1 d.lasted d.files.length
 apart:Nm.Apart d.names
 lapart:Nm.Apart d.lasted
 most:d.names.length≤64
 turn:∀t∈d.turns,t.file≤d.files.length∧(t.kind=1→t.file < d.files.length)
 gnames:∀p∈d.names,named p.1=true
 glasted:∀p∈d.lasted,named p.1=true
 gturns:∀t∈d.turns,named t.a=true∧(t.kind=2→named t.b=true)∧(t.kind=1∨t.kind=2∨t.kind=3)
 stop:d.stop≤9223372036854775807
 fail:d.fail≤9223372036854775807
end Sd
end
section
open Go
namespace Mn
open Go.Lib
theorem parse_append:∀(l r:List UInt8) (acc:Nat),parseUint10 acc (l++r)=match parseUint10 acc l with
  |.ok u=>parseUint10 u r
  |x=>x
 |[],r,acc=>by simp[parseUint10]
 |c::l,r,acc=>by
  simp only[List.cons_append,parseUint10];split
  ·split
   ·rfl
   ·split
    ·rfl
    ·exact parse_append l r _
  ·rfl
theorem gw1 (d:Nat) (h:d < 10):(UInt8.ofNat (48+d)).toNat=48+d:=by
 rw[UInt8.toNat_ofNat_of_lt'];show 48+d < 256
 omega
theorem nx2 (u:Nat) (h:u < 9223372036854775808):parseUint10 0 (decDigits u)=.ok u:=by
 induction u using Nat.strongRecOn with
 |_ u ih=>
  rw[decDigits];split
  ·rename_i h1
   have e:=gw1 u h1;simp only[parseUint10,e];rw[if_pos (by omega),if_neg (by omega),if_neg (by omega)]
   congr 1
   omega
  ·rename_i h1
   have e:=gw1 (u % 10) (Nat.mod_lt _ (by omega));rw[parse_append,ih (u / 10) (by omega) (by omega)];simp only[parseUint10,e];rw[if_pos (by omega),if_neg (by omega),if_neg (by omega)]
   congr 1
   omega
theorem gw2 (u:Nat):∀c∈decDigits u,48≤c.toNat∧c.toNat≤57:=by
 induction u using Nat.strongRecOn with
 |_ u ih=>
  rw[decDigits];split
  ·rename_i h1
   intro c hc;rw[List.mem_singleton.1 hc,gw1 u h1];omega
  ·intro c hc
   rcases List.mem_append.1 hc with hc|hc
   ·exact ih (u / 10) (by omega) c hc
   ·rw[List.mem_singleton.1 hc,gw1 _ (Nat.mod_lt _ (by omega))]
    omega
theorem dz2 (u:Nat):∀k,u < 10 ^ (k+1)→1≤(decDigits u).length∧(decDigits u).length≤k+1:=by
 induction u using Nat.strongRecOn with
 |_ u ih=>
  intro k hk;rw[decDigits];split
  ·simp
  ·rcases k with _|k
   ·omega
   ·have:=ih (u / 10) (by omega) k (by
     have h2:10 ^ (k+1+1)=10 ^ (k+1)*10:=Nat.pow_succ 10 (k+1);omega)
    simp only[List.length_append,List.length_singleton];omega
theorem zy2 (u:Nat) (h:u < 9223372036854775808):atoiAll (decDigits u)=.ok (u:Int):=by
 have hl:=(dz2 u 19 (by omega)).1;have ha:=gw2 u;have hp:=nx2 u h
 cases hd:decDigits u with
 |nil=>rw[hd]at hl;simp at hl
 |cons c r=>
  rw[hd]at ha hp;have hc:=ha c (by simp);unfold atoiAll parseMag;simp only;rw[if_neg (by omega:¬(c.toNat=43∨c.toNat=45)),if_neg (by simp:¬(c::r=[])),hp];simp only;rw[if_neg (by omega),if_neg (by omega),if_neg (by omega)]
def kLog:List UInt8:=[108,111,103]
def kTab:List UInt8:=[116,97,98]
def kMan:List UInt8:=[109,97,110]
def isKind (k:List UInt8):Bool:=k==kLog||(k==kTab||k==kMan)
def fits (n:Int):Bool:=decide (1≤n) &&decide (n≤1073741824)
def name (kind:List UInt8) (n:Int):List UInt8:=if fits n&&isKind kind then kind++[46] ++itoa n else []
def okOf:NumEnd Int→Option Int
 |.ok v=>some v
 |_=>none
def number (s kind:List UInt8):Option Int:=
 if hasPrefix s (kind++[46]) then match okOf (atoiAll (s.drop (kind.length+1))) with
  |some v=>if name kind v=s then some v else none
  |none=>none
 else none
theorem dy1 {kind:List UInt8} {n:Int} (h:(fits n&&isKind kind)=true):name kind n=kind++[46] ++decDigits n.toNat:=by
 have h1:1≤n:=by simp[fits]at h;omega
 rw[name,if_pos h,itoa,if_neg (by omega)]
theorem yj2 {s kind:List UInt8} {v:Int} (h:number s kind=some v):name kind v=s:=by
 unfold number at h;split at h
 ·split at h
  ·split at h
   ·injection h with h
    subst h
    assumption
   ·cases h
  ·cases h
 ·cases h
theorem cx3 {kind:List UInt8} {n:Int} (h:(fits n&&isKind kind)=true):number (name kind n) kind=some n:=by
 have h1:1≤n∧n≤1073741824:=by simp[fits]at h;omega
 have e:=dy1 h;unfold number;have hp:hasPrefix (name kind n) (kind++[46])=true:=by
  rw[e,hasPrefix,List.isPrefixOf_iff_prefix];exact List.prefix_append _ _
 have hd:(name kind n).drop (kind.length+1)=decDigits n.toNat:=by
  rw[e,List.drop_append_of_le_length (by simp)];simp
 rw[if_pos hp,hd,zy2 n.toNat (by omega)];simp only[okOf];rw[if_pos (by rw[show ((n.toNat:Nat):Int)=n by omega])]
 congr 1
 omega
theorem ev3 {kind:List UInt8} {n:Int} (h:name kind n≠[]):kind.length=3∧5≤(name kind n).length∧(name kind n).length≤14:=by
 by_cases hf:(fits n&&isKind kind)=true
 ·rw[dy1 hf]
  have h1:1≤n∧n≤1073741824:=by simp[fits]at hf;omega
  have hl:=dz2 n.toNat 9 (by omega);have hk:kind.length=3:=by
   simp only[Bool.and_eq_true,isKind,Bool.or_eq_true,beq_iff_eq]at hf
   rcases hf.2 with h2|h2|h2<;>rw[h2] <;>rfl
  simp only[List.length_append,List.length_singleton];omega
 ·exact absurd (by rw[name,if_neg hf]) h
theorem gz2 {kind:List UInt8} {n:Int} (h:(fits n&&isKind kind)=true):Sd.named (name kind n)=true:=by
 have hne:name kind n≠[]:=by rw[dy1 h];simp
 obtain⟨_,h2,h3⟩:=ev3 hne;unfold Sd.named;rw[decide_eq_true (by omega),decide_eq_true (by omega),dy1 h,List.all_append,List.all_append];have hk:kind.all Sd.okCh=true:=by
  simp only[Bool.and_eq_true,isKind,Bool.or_eq_true,beq_iff_eq]at h
  rcases h.2 with h2|h2|h2<;>rw[h2] <;>decide
 have hd:(decDigits n.toNat).all Sd.okCh=true:=by
  rw[List.all_eq_true];intro c hc;have:=gw2 _ c hc;simp[Sd.okCh,this]
 rw[hk,hd];decide
end Mn
end
section
open Go
variable {P:Program} {ops:Array Oper} {Q:Exit→Act→World→Prop} {md:Region.Mode} {S:World→Prop}
theorem wpT {i:Nat} {oi:Oper} {v:Value} {fuel:Nat} {listed:Array Bool} {a:Act} {w:World}
  (hv:∀w,S w→(execOp a.eval oi).run P w=.ok (.value v) w) (hS:S w)
  (h:wpAnyH P md ops Q S fuel (listed.setIfInBounds i true) (a.put oi.dst v) w)
  (hi:ops[i]?=some oi:=by exact rfl) (hs:Region.noSelect ops=true:=by kernel_rfl) (hf:Region.free md ops listed i=true:=by kernel_rfl) (hr:(Region.ready md ops listed).contains i=true:=by kernel_rfl)
  (hQ:∀c a w,Q (.panic c) (a.put oi.dst v) w→Q (.panic c) a w:=by exact fun _ _ _ h=>h)
  (hw:Region.wanted oi (yielded ops a.tmps)=true:=by rfl):wpAnyH P md ops Q S (fuel+1) listed a w:=
 wpAnyH_take hi hs hf hr hQ (Or.inl ⟨hw,hv⟩) hS h
theorem wpT0 {i:Nat} {oi:Oper} {fuel:Nat} {listed:Array Bool} {a:Act} {w:World} (hS:S w)
  (h:wpAnyH P md ops Q S fuel (listed.setIfInBounds i true) (a.put oi.dst undef) w)
  (hi:ops[i]?=some oi:=by exact rfl) (hs:Region.noSelect ops=true:=by kernel_rfl) (hf:Region.free md ops listed i=true:=by kernel_rfl) (hr:(Region.ready md ops listed).contains i=true:=by kernel_rfl)
  (hQ:∀c a w,Q (.panic c) (a.put oi.dst undef) w→Q (.panic c) a w:=by exact fun _ _ _ h=>h)
  (hw:Region.wanted oi (yielded ops a.tmps)=false:=by rfl):wpAnyH P md ops Q S (fuel+1) listed a w:=
 wpAnyH_take hi hs hf hr hQ (Or.inr ⟨hw,rfl⟩) hS h
theorem gE0 {α:Type _} {a:α} {l:List α}:(a::l)[0]?=some a:=List.getElem?_cons_zero
theorem gE1 {α:Type _} {a:α} {l:List α} {i:Nat}:(a::l)[i+1]?=l[i]?:=List.getElem?_cons_succ
end
section
open Go Go.RowKit
theorem add_block (a:Addr) (n:Nat):(a.add n).block=a.block:=by
 unfold Addr.add;split<;>rfl
theorem vv1 (a:Addr) (i j:Nat):(a.add i).add j=a.add (i+j):=by
 unfold Addr.add
 rcases Nat.eq_zero_or_pos i with hi|hi<;>rcases Nat.eq_zero_or_pos j with hj|hj
 ·simp[hi,hj]
 ·rw[if_neg (by omega:¬j=0),if_pos hi,if_neg (by omega),hi,Nat.zero_add]
 ·rw[if_pos hj,hj,if_neg (by omega),if_neg (by omega)]
  rfl
 ·rw[if_neg (by omega:¬j=0),if_neg (by omega:¬i=0),if_neg (by omega)]
  simp only[Nat.add_assoc]
structure Row (B:Nat) (w:World) (A:Option Addr) (n size:Nat) (xs:List Value):Prop where
 len:xs.length=n *size
 cell:∀j (h:j < xs.length),∃a,A=some a∧a.block < B∧w.cell? (a.add j)=some (xs[j])
variable {B B' n size:Nat} {w w':World} {A:Option Addr} {xs:List Value}
theorem Row.nil_:Row B w A 0 size []:=⟨by simp,fun j h=>absurd h (by simp)⟩
theorem Row.up (h:Row B w A n size xs) (hB:B≤B'):Row B' w A n size xs:=
 ⟨h.len,fun j hj=>let ⟨a,e,b,c⟩:=h.cell j hj;⟨a,e,by omega,c⟩⟩
theorem Row.keep (h:Row B w A n size xs) (hk:∀p:Addr,p.block < B→w'.cell? p=w.cell? p):Row B w' A n size xs:=
 ⟨h.len,fun j hj=>let ⟨a,e,b,c⟩:=h.cell j hj;⟨a,e,b,(hk _ (by rw[add_block];exact b)).trans c⟩⟩
theorem Row.below (h:Row B w A n size xs) (hb:Below B w w'):Row B w' A n size xs:=h.keep fun _ hp=>hb.cell hp
theorem Row.arg (h:Row B w A n size xs) (hB:B≤w.heap.size):Row w.heap.size w A n size xs:=h.up hB
theorem Row.alloc (h:Row B w A n size xs) (hB:B≤w.heap.size) (o:Obj):Row B (w.alloc o) A n size xs:=
 h.keep fun p hp=>World.cell?_alloc_lt w o p (by omega)
theorem Row.drew (h:Row B w A n size xs):Row B w.drew A n size xs:=h.keep fun _ _=>rfl
theorem Row.drewN (h:Row B w A n size xs) (k:Nat):Row B (w.drewN k) A n size xs:=h.keep fun _ _=>rfl
theorem Row.setCell (h:Row B w A n size xs) {p:Addr} (hB:B≤p.block) (u:Value):Row B (w.setCell p u) A n size xs:=
 h.keep fun q hq=>World.cell?_setCell_other w p q u (fun e=>by subst e;omega)
theorem Row.at1 (h:Row B w A n 1 xs) {k:Nat} (hk:k < n):∃a v,A=some a∧a.block < B∧xs[k]?=some v∧w.cell? (a.add k)=some v:=by
 have hl:k < xs.length:=by have:=h.len;omega
 obtain⟨a,e,b,c⟩:=h.cell k hl;exact⟨a,xs[k],e,b,List.getElem?_eq_getElem hl,c⟩
theorem Row.some_ (h:Row B w A n size xs) (hn:0 < xs.length):∃a,A=some a∧a.block < B:=by
 obtain⟨a,e,b,_⟩:=h.cell 0 hn;exact⟨a,e,b⟩
theorem Row.cells {a:Addr} (h:Row B w (some a) n size xs):∀j u,xs[j]?=some u→w.cell? (a.add j)=some u:=by
 intro j u hu;obtain⟨hl,rfl⟩:=List.getElem?_eq_some_iff.1 hu;obtain⟨a',e,_,c⟩:=h.cell j hl;injection e with e;subst e;exact c
theorem Row.cut (h:Row B w A n size xs) {k m:Nat} (hk:k≤m) (hm:m≤n) {A':Option Addr} (hA:k < m→A'=A.map (·.add (k *size))):
  Row B w A' (m - k) size ((xs.drop (k *size)).take ((m - k)*size)):=by
 have hle:(m - k)*size≤xs.length - k *size:=by
  rw[h.len,←Nat.sub_mul];exact Nat.mul_le_mul_right _ (by omega)
 refine⟨by rw[List.length_take,List.length_drop];omega,fun j hj=>?_⟩;have hj':j < (m - k)*size:=by rw[List.length_take]at hj;omega
 have hkm:k < m:=by
  rcases Nat.lt_or_ge k m with h0|h0
  ·exact h0
  ·rw[show m - k=0 from by omega,Nat.zero_mul]at hj';omega
 obtain⟨a,rfl,hb,hc⟩:=h.cell (k *size+j) (by omega);refine⟨a.add (k *size),hA hkm,by rw[add_block];exact hb,?_⟩;rw[vv1,hc];simp
theorem Row.pre (h:Row B w A n size xs) {m:Nat} (hm:m≤n):Row B w A m size (xs.take (m *size)):=by
 have:=h.cut (A':=A) (Nat.zero_le m) hm (fun _=>by cases A<;>simp[Addr.add]);simpa using this
theorem Row.new (w:World) (cs:Array Value) (e:TypeId) {n size:Nat} (hs:cs.size=n *size) (fr:Nat×Nat:=(0,0)):Row (w.heap.size+1) (w.alloc (.cells cs e fr)) (some ⟨w.heap.size,0,none⟩) n size cs.toList:=by
 refine⟨by simpa using hs,fun j hj=>⟨_,rfl,by simp,?_⟩⟩;have:((⟨w.heap.size,0,none⟩:Addr).add j)=⟨w.heap.size,j,none⟩:=by
  unfold Addr.add;split<;>simp_all
 rw[this,cell_of_row _ _ _ _ _ _ (heap_alloc_new w _)];simp at hj ⊢
theorem Row.own {base:Nat} {e:TypeId} {c:Nat} (h:w.ownsRow base e size (.slice A n c) n xs):Row w.heap.size w A n size xs:=by
 refine⟨h.1,fun j hj=>?_⟩
 rcases h.2 with ⟨hv,hn⟩|⟨g,cap,cur,hv,hb,hg,_,_,_,htake⟩
 ·subst hn
  have:=h.1;omega
 ·injection hv with hA _ _
  subst hA;exact⟨_,rfl,(Array.getElem?_eq_some_iff.1 hg).1,h.cells (g:=g) rfl j _ (List.getElem?_eq_getElem hj)⟩
theorem ay {base:Nat} {e:TypeId} {v:Value} (h:w.ownsRow base e size v n xs):
  ∃A c,v=.slice A n c∧n≤c∧c≤maxLen∧(∀a,A=some a→base≤a.block∧a.block < w.heap.size∧a.spot=none∧a.off=0):=by
 rcases h.2 with ⟨rfl,rfl⟩|⟨g,cap,cur,rfl,hb,hg,hn,hc,_⟩
 ·exact⟨none,0,rfl,Nat.le_refl _,Nat.zero_le _,fun a h=>by cases h⟩
 ·exact⟨_,cap,rfl,hn,hc,fun a h=>by cases h;exact⟨hb,(Array.getElem?_eq_some_iff.1 hg).1,rfl,rfl⟩⟩
theorem own_below {base:Nat} {e:TypeId} {v:Value} (h:w.ownsRow base e size v n xs) (hb:Below w.heap.size w w'):w'.ownsRow base e size v n xs:=
 h.kept (row:=none) ⟨hb.os,hb.tape,hb.output,hb.size,fun k hk _=>hb.block k hk⟩ (by cases v.ownBlock<;>simp)
theorem own_base {base base':Nat} {e:TypeId} {v:Value} (h:w.ownsRow base e size v n xs) (hb:base'≤base):w.ownsRow base' e size v n xs:=by
 refine⟨h.1,?_⟩
 rcases h.2 with h0|⟨g,cap,cur,rfl,h1,r⟩
 ·exact .inl h0
 ·exact .inr ⟨g,cap,cur,rfl,by omega,r⟩
theorem nk2 {base:Nat} {e:TypeId} {v:Value} {a:World} (h:Below base a w) (ho:w.ownsRow base e size v n xs) (hg:w.grownBy w' v.ownBlock) (hB:base≤w.heap.size):Below base a w':=
 h.grown hg hB (fun k hk=>(ho.lt k hk).1)
theorem below_drewN {B:Nat} {a w:World} (h:Below B a w) (n:Nat):Below B a (w.drewN n):=⟨h.os,h.tape,h.output,h.size,h.block⟩
theorem sz4 {P:Program} (w:World) (base:Nat) (t ty e:TypeId) (i:TypeInfo) (z:Value) (size bytes:Nat) (ht:P.underlying t=some (.slice e)) (hi:P.info? e=some i) (hz:i.zero=some z)
  (hsize:i.size=size) (hby:i.bytes=bytes) (hzs:z.cells.size=size) (hsz:0 < size) (v:Value) (n:Nat) (xs:List Value) (hown:w.ownsRow base e size v n xs)
  (B:Nat) (A:Option Addr) (m c:Nat) (news:List Value) (hr:Row B w A m size news) (h1:∀u∈news,u.oneCell'=true)
  (h63:n+m≤maxLen) (hbytes:(n+m)*bytes≤140737488355328) (hbase:base≤w.heap.size):
  ∃A' c' w',(Builtin.append_ #[t,t] ty #[v,.slice A m c]).run P w=.ok (.slice A' (n+m) c') w'∧w'.ownsRow base e size (.slice A' (n+m) c') (n+m) (xs++news)∧w.grownBy w' v.ownBlock∧n+m≤c'∧c'≤maxLen:=by
 have pack:∀v' w',(Builtin.append_ #[t,t] ty #[v,.slice A m c]).run P w=.ok v' w'→w'.ownsRow base e size v' (n+m) (xs++news)→w.grownBy w' v.ownBlock→
   ∃A' c' w',(Builtin.append_ #[t,t] ty #[v,.slice A m c]).run P w=.ok (.slice A' (n+m) c') w'∧w'.ownsRow base e size (.slice A' (n+m) c') (n+m) (xs++news)∧w.grownBy w' v.ownBlock∧n+m≤c'∧c'≤maxLen:=by
  intro v' w' h2 h3 h4;obtain⟨A',c',rfl,h5,h6,_⟩:=ay h3;exact⟨A',c',w',h2,h3,h4,h5,h6⟩
 rcases Nat.eq_zero_or_pos m with h0|h0
 ·subst h0
  have hn:news=[]:=List.eq_nil_of_length_eq_zero (by simpa using hr.len);subst hn;rw[List.append_nil]at pack ⊢;refine pack v w ?_ hown ⟨rfl,rfl,rfl,Nat.le_refl _,fun _ _ _=>rfl⟩
  rcases hown.2 with ⟨rfl,rfl⟩|⟨g,cap,cur,rfl,_,_,hnc,_⟩
  ·rcases A with _|a<;>simp[Builtin.append_,run_underlying ht,sizeOf,typeInfo,hi,Builtin.lenOf,Builtin.firstCells,loadCells,loadCellsFrom]
  ·rcases A with _|a<;>simp[Builtin.append_,run_underlying ht,sizeOf,typeInfo,hi,Builtin.lenOf,Builtin.firstCells,loadCells,loadCellsFrom,hnc,storeCells]
 ·have hpos:0 < news.length:=by
   rw[hr.len];exact Nat.mul_pos h0 hsz
  obtain⟨a,rfl,_⟩:=hr.some_ hpos;obtain⟨v',w',h2,h3,h4,_⟩:=run_append_own_at (P:=P) w base t ty e i z size bytes ht hi hz hsize hby hzs hsz v n xs hown a m c news hr.len hr.cells h1 h63 hbytes hbase;exact pack v' w' h2 h3 h4
theorem bz5 {P:Program} (w:World) {o:Oper} {a:Act} {K:Act→World→Prop} {Q:Exit→Act→World→Prop} (s x:Operand) (t:TypeId)
  (ho:o.op=.call { callee:=.builtin .append,args:=#[s,x],argTypes:=#[t,t] })
  (base:Nat) (e:TypeId) (i:TypeInfo) (z:Value) (size bytes:Nat) (ht:P.underlying t=some (.slice e)) (hi:P.info? e=some i) (hz:i.zero=some z)
  (hsize:i.size=size) (hby:i.bytes=bytes) (hzs:z.cells.size=size) (hsz:0 < size) (w0:World) (hb:Below base w0 w) (hbase:base≤w.heap.size) (v:Value) (n:Nat) (xs:List Value) (hs:a.eval s=v) (hown:w.ownsRow base e size v n xs)
  (B:Nat) (A:Option Addr) (m c:Nat) (news:List Value) (hx:a.eval x=.slice A m c) (hr:Row B w A m size news) (h1:∀u∈news,u.oneCell'=true)
  (h63:n+m≤maxLen) (hbytes:(n+m)*bytes≤140737488355328)
  (h:∀A' c' w',w'.ownsRow base e size (.slice A' (n+m) c') (n+m) (xs++news)→Below base w0 w'→w.grownBy w' v.ownBlock→n+m≤c'→c'≤maxLen→K (a.put o.dst (.slice A' (n+m) c')) w'):o.wp P a w K Q:=by
 obtain⟨A',c',w',hrun,h2,h3,h4,h5⟩:=sz4 (P:=P) w base t o.type e i z size bytes ht hi hz hsize hby hzs hsz v n xs hown B A m c news hr h1 h63 hbytes hbase;unfold Oper.wp execOp;simp only[ho,resolve,invoke,builtin,Sem.run_bind,Sem.run_pure,Result.andThen_ok,List.map_toArray,List.map_cons,List.map_nil,hs,hx,hrun];exact h A' c' w' h2 (nk2 hb hown h3 hbase) h3 h4 h5
theorem lq {P:Program} {w:World} {ops:Array Oper} {rest:List Oper} {o:Oper} {a:Act} {Q:Exit→Act→World→Prop} (hgd:o.guard=none) (s x:Operand) (t:TypeId)
  (ho:o.op=.call { callee:=.builtin .append,args:=#[s,x],argTypes:=#[t,t] })
  (base:Nat) (e:TypeId) (i:TypeInfo) (z:Value) (size bytes:Nat) (ht:P.underlying t=some (.slice e)) (hi:P.info? e=some i) (hz:i.zero=some z)
  (hsize:i.size=size) (hby:i.bytes=bytes) (hzs:z.cells.size=size) (hsz:0 < size) (w0:World) (hb:Below base w0 w) (hbase:base≤w.heap.size) (v:Value) (n:Nat) (xs:List Value) (hs:a.eval s=v) (hown:w.ownsRow base e size v n xs)
  (B:Nat) (A:Option Addr) (m c:Nat) (news:List Value) (hx:a.eval x=.slice A m c) (hr:Row B w A m size news) (h1:∀u∈news,u.oneCell'=true)
  (N:Nat) (X:List Value) (hN:n+m=N) (hX:xs++news=X) (h63:N≤maxLen) (hbytes:N *bytes≤140737488355328)
  (h:∀A' c' w',w'.ownsRow base e size (.slice A' N c') N X→Below base w0 w'→w.grownBy w' v.ownBlock→N≤c'→c'≤maxLen→wpList P ops Q rest (a.put o.dst (.slice A' N c')) w'):wpList P ops Q (o::rest) a w:=by
 subst hN;subst hX;exact wpList_plain hgd fun _ hK=>bz5 w s x t ho base e i z size bytes ht hi hz hsize hby hzs hsz w0 hb hbase v n xs hs hown B A m c news hx hr h1 h63 hbytes fun A' c' w' h2 h3 h4 h5 h6=>hK _ _ (h A' c' w' h2 h3 h4 h5 h6)
theorem uw {P:Program} {w:World} {ops:Array Oper} {rest:List Oper} {o:Oper} {a:Act} {Q:Exit→Act→World→Prop} (hgd:o.guard=none) (s x:Operand) (t:TypeId)
  (ho:o.op=.call { callee:=.builtin .append,args:=#[s,x],argTypes:=#[t,t] })
  (base:Nat) (e:TypeId) (i:TypeInfo) (z:Value) (size bytes:Nat) (ht:P.underlying t=some (.slice e)) (hi:P.info? e=some i) (hz:i.zero=some z)
  (hsize:i.size=size) (hby:i.bytes=bytes) (hzs:z.cells.size=size) (hsz:0 < size) (w0:World) (hb:Below base w0 w) (hbase:base≤w.heap.size) (hs:a.eval s=.slice none 0 0)
  (B:Nat) (A:Option Addr) (m c:Nat) (news:List Value) (hx:a.eval x=.slice A m c) (hr:Row B w A m size news) (h1:∀u∈news,u.oneCell'=true)
  (h63:m≤maxLen) (hbytes:m *bytes≤140737488355328)
  (h:∀A' c' w',w'.ownsRow base e size (.slice A' m c') m news→Below base w0 w'→w.grownBy w' none→m≤c'→c'≤maxLen→wpList P ops Q rest (a.put o.dst (.slice A' m c')) w'):wpList P ops Q (o::rest) a w:=
 lq hgd s x t ho base e i z size bytes ht hi hz hsize hby hzs hsz w0 hb hbase (.slice none 0 0) 0 [] hs (World.ownsRow_nil _ _ _ _) B A m c news hx hr h1 m news (Nat.zero_add m) (List.nil_append news) h63 hbytes
  (by simpa [Value.ownBlock] using h)
def Stop (p:Prop):Prop:=p
theorem jq {p:Prop} (h:Stop p):p:=h
theorem gy {p:Prop} (h:p):Stop p:=h
def bts (l:List UInt8):List Value:=l.map fun c=>.int .u8 (c.toNat:Int)
theorem vk (l:List UInt8):(bts l).length=l.length:=by simp[bts]
theorem xq4 (l:List UInt8) (k:Nat):(bts l)[k]?=(l[k]?).map fun c=>.int .u8 (c.toNat:Int):=by simp[bts]
theorem rk1 (a b:List UInt8):bts (a++b)=bts a++bts b:=by simp[bts]
theorem ej1 (l:List UInt8) (k:Nat):bts (l.take k)=(bts l).take k:=by simp[bts]
theorem jx2 (l:List UInt8) (k:Nat):bts (l.drop k)=(bts l).drop k:=by simp[bts]
theorem ak1 (l:List UInt8):∀u∈bts l,u.oneCell'=true:=by
 intro u hu;simp only[bts,List.mem_map]at hu;obtain⟨c,_,rfl⟩:=hu;rfl
theorem Row.bt {l:List UInt8} (h:Row B w A n 1 (bts l)) {k:Nat} (hk:k < n):∃a,∃hl:k < l.length,A=some a∧a.block < B∧w.cell? (a.add k)=some (.int .u8 ((l[k]).toNat:Int)):=by
 obtain⟨a,v,e,b,hv,hc⟩:=h.at1 hk;have hl:k < l.length:=by have:=h.len;rw[vk]at this;omega
 rw[xq4,List.getElem?_eq_getElem hl]at hv;injection hv with hv;exact⟨a,hl,e,b,by rw[hc,←hv]⟩
theorem Row.yz {l:List UInt8} (h:Row B w A n 1 (bts l)):l.length=n:=by have:=h.len;rw[vk]at this;omega
theorem foldl_push (l:List UInt8):∀s:ByteArray,(l.map fun c=>(c.toNat:Int)).foldl (fun r n=>r.push (UInt8.ofNat n.toNat)) s=⟨s.data++l.toArray⟩:=by
 induction l with
 |nil=>intro s;simp
 |cons c l ih=>
  intro s;rw[List.map_cons,List.foldl_cons,ih]
  congr 1
  apply Array.toList_inj.1;simp[ByteArray.push]
theorem Row.load {P:Program} {a:Addr} (h:Row B w (some a) n 1 xs):(loadCells a n).run P w=.ok xs.toArray w:=by
 have hl:=h.len;have:=run_loadCells_list (P:=P) (w:=w) a xs h.cells
 rwa [show xs.length=n from by omega]at this
theorem jj4 {P:Program} {l:List UInt8} (src dst e:TypeId) (hs:P.underlying src=some (.slice e)) (he:P.underlying e=some (.int .u8)) (hd:P.underlying dst=some .string)
  (h:Row B w A n 1 (bts l)) (c:Nat):(convert src dst (.slice A n c)).run P w=.ok (.string ⟨l.toArray⟩) w:=by
 rw[run_convert_bytes_string w src dst e A n c hs he hd];have hl:=h.yz
 rcases A with _|a
 ·have hn:n=0:=by
   rcases Nat.eq_zero_or_pos n with h0|h0
   ·exact h0
   ·obtain⟨_,_,he,_⟩:=h.bt h0
    cases he
  subst hn;obtain rfl:=List.eq_nil_of_length_eq_zero hl;rfl
 ·rw[run_bytesToString w a n c (l.map fun c=>(c.toNat:Int)) (by rw[h.load];simp[bts,Function.comp_def]),foldl_push]
  simp
end
section
open Go Go.RowKit
structure Chg (F:List Nat) (w w':World):Prop where
 os:w'.os=w.os
 tape:w'.tape=w.tape
 output:w'.output=w.output
 size:w.heap.size≤w'.heap.size
 block:∀k,k < w.heap.size→k∉F→w'.heap[k]?=w.heap[k]?
variable {F G:List Nat} {w w' w'':World}
theorem Chg.refl (F:List Nat) (w:World):Chg F w w:=⟨rfl,rfl,rfl,Nat.le_refl _,fun _ _ _=>rfl⟩
theorem Chg.trans (h:Chg F w w') (k:Chg G w' w'') (hG:∀g∈G,g∈F∨w.heap.size≤g):Chg F w w'':=
 ⟨k.os.trans h.os,k.tape.trans h.tape,k.output.trans h.output,Nat.le_trans h.size k.size,fun b hb hF=>(k.block b (Nat.lt_of_lt_of_le hb h.size) (fun hg=>by
  rcases hG b hg with h1|h1
  ·exact hF h1
  ·omega)).trans (h.block b hb hF)⟩
theorem Chg.mono (h:Chg F w w') (hF:∀g∈F,g∈G∨w.heap.size≤g):Chg G w w':=
 ⟨h.os,h.tape,h.output,h.size,fun b hb hG=>h.block b hb (fun hf=>by
  rcases hF b hf with h1|h1
  ·exact hG h1
  ·omega)⟩
theorem Chg.of_below (h:Below w.heap.size w w') (F:List Nat):Chg F w w':=⟨h.os,h.tape,h.output,h.size,fun b hb _=>h.block b hb⟩
theorem Chg.below (h:Chg F w w') {B:Nat} (hB:B≤w.heap.size) (hF:∀g∈F,B≤g):Below B w w':=⟨h.os,h.tape,h.output,h.size,fun b hb=>h.block b (Nat.lt_of_lt_of_le hb hB) (fun hf=>by have:=hF b hf;omega)⟩
theorem Chg.uy {g:Option Nat} (h:w.grownBy w' g) (hg:∀b,g=some b→b∈F):Chg F w w':=⟨h.os,h.tape,h.output,h.size,fun b hb hF=>h.block b hb (fun e=>hF (hg b e.symm))⟩
theorem Chg.drew (h:Chg F w w'):Chg F w w'.drew:=⟨h.os,h.tape,h.output,h.size,h.block⟩
theorem Chg.cell (h:Chg F w w') {p:Addr} (hp:p.block < w.heap.size) (hF:p.block∉F):w'.cell? p=w.cell? p:=World.cell?_of_block (h.block p.block hp hF)
theorem Chg.row {B n size:Nat} {A:Option Addr} {xs:List Value} (h:Chg F w w') (r:Row B w A n size xs) (hB:B≤w.heap.size) (hF:∀a,A=some a→a.block∉F):Row B w' A n size xs:=
 ⟨r.len,fun j hj=>let ⟨a,e,b,c⟩:=r.cell j hj;⟨a,e,b,(h.cell (p:=a.add j) (by rw[add_block];omega) (by rw[add_block];exact hF a e)).trans c⟩⟩
theorem az {w X w1:World} (h:Below w.heap.size w X) (h1:Below X.heap.size X w1):Below w.heap.size w w1:=h.trans (h1.mono h.size)
theorem ak {B:Nat} {w X:World} (h:Below B w X):Below B w X.drew:=⟨h.os,h.tape,h.output,h.size,h.block⟩
theorem Chg.alloc (h:Chg F w w') (o:Obj):Chg F w (w'.alloc o):=
 h.trans (Chg.of_below ((Below.refl _ _).alloc (Nat.le_refl _) o) []) (fun g hg=>by cases hg)
theorem Chg.setCell (h:Chg F w w') {p:Addr} (v:Value) (hp:p.block∈F∨w.heap.size≤p.block):Chg F w (w'.setCell p v):=
 ⟨h.os,h.tape,h.output,by simpa using h.size,fun k hk hF=>by
  have e:(w'.setCell p v).heap[k]?=w'.heap[k]?:=by
   refine Below.heap_setCell w' p v k (fun e=>?_);subst e
   rcases hp with hp|hp
   ·exact hF hp
   ·omega
  rw[e];exact h.block k hk hF⟩
end
section
open Go Go.RowKit
def BoxO (w:World) (e:TypeId) (g:Nat) (xs:List Value):Prop:=w.heap[g]?=some (.cells xs.toArray e (0,0))
variable {w w':World} {e:TypeId} {g:Nat} {xs:List Value} {F:List Nat}
theorem BoxO.cell (h:BoxO w e g xs) (j:Nat):w.cell? ⟨g,j,none⟩=xs[j]?:=by rw[cell_of_row _ _ _ _ _ _ h];simp
theorem BoxO.free (h:BoxO w e g xs) (j:Nat):w.frozen? ⟨g,j,none⟩=false:=frozen_of_row _ _ _ _ _ h
theorem BoxO.lt (h:BoxO w e g xs):g < w.heap.size:=(Array.getElem?_eq_some_iff.1 h).1
theorem BoxO.chg (h:BoxO w e g xs) (c:Chg F w w') (hg:g∉F):BoxO w' e g xs:=(c.block g h.lt hg).trans h
theorem BoxO.below (h:BoxO w e g xs) (hb:Below w.heap.size w w'):BoxO w' e g xs:=(hb.block g h.lt).trans h
theorem BoxO.alloc (h:BoxO w e g xs) (o:Obj):BoxO (w.alloc o) e g xs:=h.below ((Below.refl _ _).alloc (Nat.le_refl _) o)
theorem BoxO.new (w:World) (cs:Array Value) (e:TypeId):BoxO (w.alloc (.cells cs e)) e w.heap.size cs.toList:=heap_alloc_new _ _
theorem BoxO.store (h:BoxO w e g xs) (j:Nat) (u:Value):BoxO (w.setCell ⟨g,j,none⟩ u) e g (xs.set j u):=by
 have h1:w.ownsRow 0 e xs.length (.slice (some ⟨g,0,none⟩) 1 1) 1 xs:=⟨by simp,.inr ⟨g,1,xs.toArray,rfl,Nat.zero_le _,h,Nat.le_refl _,by decide,by simp,by simp⟩⟩;obtain⟨h2,_⟩:=h1.stored j u
 rcases h2.2 with ⟨hv,_⟩|⟨g2,cap2,cur,hv,_,hg,_,_,hs,ht⟩
 ·cases hv
 ·injection hv with hv _ hc
  injection hv with hv;injection hv with hv;subst hv;subst hc;unfold BoxO;have e1:cur.toList=xs.set j u:=by
   rw[←ht,List.take_of_length_le (by simp at hs ⊢;omega)]
  rw[hg,←e1]
theorem BoxO.drew (h:BoxO w e g xs):BoxO w.drew e g xs:=h
theorem pz (w:World) (p:Addr) (v:Value):Chg [p.block] w (w.setCell p v):=(Chg.refl [p.block] w).setCell v (.inl (by simp))
end
section
open Go Go.RowKit
theorem xq {P:Program} {w:World} {ops:Array Oper} {rest:List Oper} {o:Oper} {a:Act} {Q:Exit→Act→World→Prop} (hgd:o.guard=none) (s x:Operand) (t:TypeId)
  (ho:o.op=.call { callee:=.builtin .append,args:=#[s,x],argTypes:=#[t,t] })
  (base:Nat) (e:TypeId) (i:TypeInfo) (z:Value) (size bytes:Nat) (ht:P.underlying t=some (.slice e)) (hi:P.info? e=some i) (hz:i.zero=some z)
  (hsize:i.size=size) (hby:i.bytes=bytes) (hzs:z.cells.size=size) (hsz:0 < size) (w0:World) (hb:Below base w0 w) (hbase:base≤w.heap.size) (v:Value) (n:Nat) (xs:List Value) (hs:a.eval s=v) (hown:w.ownsRow base e size v n xs)
  (B:Nat) (A:Option Addr) (m c:Nat) (hm:0 < m) (news:List Value) (hx:a.eval x=.slice A m c) (hr:Row B w A m size news) (h1:∀u∈news,u.oneCell'=true)
  (N:Nat) (X:List Value) (hN:n+m=N) (hX:xs++news=X) (h63:N≤maxLen) (hbytes:N *bytes≤140737488355328)
  (h:∀A' c' w',w'.ownsRow base e size (.slice A' N c') N X→Below base w0 w'→w.grownBy w' v.ownBlock→N≤c'→c'≤maxLen→((Value.slice A' N c').ownBlock=v.ownBlock∨(Value.slice A' N c').ownBlock=some w.heap.size)→wpList P ops Q rest (a.put o.dst (.slice A' N c')) w'):wpList P ops Q (o::rest) a w:=by
 subst hN;subst hX;have hpos:0 < news.length:=by
  rw[hr.len];exact Nat.mul_pos hm hsz
 obtain⟨a',rfl,_⟩:=hr.some_ hpos;obtain⟨v',w',hrun,h3,h4,_,h6⟩:=run_append_own_at (P:=P) (ty:=o.type) w base t e i z size bytes ht hi hz hsize hby hzs hsz v n xs hown a' m c news hr.len hr.cells h1 h63 hbytes hbase;obtain⟨A',c',rfl,h5,h7,_⟩:=ay h3;refine wpList_plain hgd fun _ hK=>?_;unfold Oper.wp execOp;simp only[ho,resolve,invoke,builtin,Sem.run_bind,Sem.run_pure,Result.andThen_ok,List.map_toArray,List.map_cons,List.map_nil,hs,hx,hrun];exact hK _ _ (h A' c' w' h3 (nk2 hb hown h4 hbase) h4 h5 h7 h6)
theorem Row.grow {B n size:Nat} {w w':World} {A:Option Addr} {xs:List Value} {r:Option Nat} (h:Row B w A n size xs) (hg:w.grownBy w' r) (hne:∀a,A=some a→some a.block≠r):Row B w' A n size xs:=
 ⟨h.len,fun j hj=>let ⟨a,e,b,c⟩:=h.cell j hj;⟨a,e,b,hg.cell c (by rw[add_block];exact hne a e)⟩⟩
end
section
namespace Crc
def poly:BitVec 32:=0x82f63b78#32
def step (n:BitVec 32):BitVec 32:=(n >>> 1) ^^^ (poly&&&-(n&&&1#32))
def steps:Nat→BitVec 32→BitVec 32
 |0,n=>n
 |k+1,n=>steps k (step n)
def byte (n:BitVec 32) (c:UInt8):BitVec 32:=steps 8 (n ^^^ BitVec.ofNat 32 c.toNat)
def add (n:BitVec 32):List UInt8→BitVec 32
 |[]=>n
 |c::l=>add (byte n c) l
def ones:BitVec 32:=0xffffffff#32
def sum (l:List UInt8):BitVec 32:= ~~~ add ones l
theorem dq2 (n:BitVec 32) (a b:List UInt8):add n (a++b)=add (add n a) b:=by
 induction a generalizing n with
 |nil=>rfl
 |cons c l ih=>exact ih (byte n c)
theorem cq3 (k:Nat) (n:BitVec 32):steps (k+1) n=step (steps k n):=by
 induction k generalizing n with
 |zero=>rfl
 |succ k ih=>exact ih (step n)
def four (n:BitVec 32):List UInt8:=[UInt8.ofNat n.toNat,UInt8.ofNat (n.toNat / 256),UInt8.ofNat (n.toNat / 65536),UInt8.ofNat (n.toNat / 16777216)]
def jw (l:List UInt8):List UInt8:=l++four (sum l)
end Crc
namespace Fnv
def basis:BitVec 64:=14695981039346656037#64
def prime:BitVec 64:=1099511628211#64
def byte (h:BitVec 64) (c:UInt8):BitVec 64:=(h ^^^ BitVec.ofNat 64 c.toNat)*prime
def go (h:BitVec 64):List UInt8→BitVec 64
 |[]=>h
 |c::l=>go (byte h c) l
def hash (l:List UInt8):BitVec 64:=go basis l
theorem bj4 (h:BitVec 64) (a b:List UInt8):go h (a++b)=go (go h a) b:=by
 induction a generalizing h with
 |nil=>rfl
 |cons c l ih=>exact ih (byte h c)
theorem xk4 (h:BitVec 64) (l:List UInt8) (k:Nat) (hl:k < l.length):go h (l.take (k+1))=byte (go h (l.take k)) l[k]:=by
 rw[List.take_succ_eq_append_getElem hl,bj4];rfl
end Fnv
end
section
open Go
theorem uq (k:Nat) (x:BitVec k):BitVec.ofInt k (x.toNat:Int)=x:=by
 apply BitVec.eq_of_toNat_eq;simp
theorem fx2 (x y:BitVec 32):bits .and .u32 (x.toNat:Int) (y.toNat:Int)=((x&&&y).toNat:Int):=by
 show IntKind.u32.wrap ((BitVec.ofInt 32 (x.toNat:Int) &&&BitVec.ofInt 32 (y.toNat:Int)).toNat:Int)=_
 rw[uq,uq,IntKind.wrap_u32'];omega
theorem rx1 (x y:BitVec 32):bits .xor .u32 (x.toNat:Int) (y.toNat:Int)=((x ^^^ y).toNat:Int):=by
 show IntKind.u32.wrap ((BitVec.ofInt 32 (x.toNat:Int) ^^^ BitVec.ofInt 32 (y.toNat:Int)).toNat:Int)=_
 rw[uq,uq,IntKind.wrap_u32'];omega
theorem fw2 (x y:BitVec 64):bits .and .u64 (x.toNat:Int) (y.toNat:Int)=((x&&&y).toNat:Int):=by
 show IntKind.u64.wrap ((BitVec.ofInt 64 (x.toNat:Int) &&&BitVec.ofInt 64 (y.toNat:Int)).toNat:Int)=_
 rw[uq,uq,IntKind.wrap_u64];omega
theorem xj3 (x y:BitVec 64):bits .or .u64 (x.toNat:Int) (y.toNat:Int)=((x|||y).toNat:Int):=by
 show IntKind.u64.wrap ((BitVec.ofInt 64 (x.toNat:Int)|||BitVec.ofInt 64 (y.toNat:Int)).toNat:Int)=_
 rw[uq,uq,IntKind.wrap_u64];omega
theorem gx2 (x y:BitVec 64):bits .xor .u64 (x.toNat:Int) (y.toNat:Int)=((x ^^^ y).toNat:Int):=by
 show IntKind.u64.wrap ((BitVec.ofInt 64 (x.toNat:Int) ^^^ BitVec.ofInt 64 (y.toNat:Int)).toNat:Int)=_
 rw[uq,uq,IntKind.wrap_u64];omega
theorem cv5 (a:Int) (k:Nat) (hk:k < 63):∃m:Nat,bits .and .i64 a (2 ^ k - 1:Nat)=(m:Int)∧m < 2 ^ k:=by
 have h2:2 ^ k < 2 ^ 63:=Nat.pow_lt_pow_right (by omega) hk;have hpos:0 < 2 ^ k:=Nat.pow_pos (by omega);have e:bits .and .i64 a ((2 ^ k - 1:Nat):Int)=IntKind.i64.wrap ((BitVec.ofInt 64 a&&&BitVec.ofInt 64 ((2 ^ k - 1:Nat):Int)).toNat:Int):=rfl;have hm:(BitVec.ofInt 64 ((2 ^ k - 1:Nat):Int)).toNat=2 ^ k - 1:=by
  rw[BitVec.ofInt_natCast,BitVec.toNat_ofNat];exact Nat.mod_eq_of_lt (by omega)
 have hle:(BitVec.ofInt 64 a&&&BitVec.ofInt 64 ((2 ^ k - 1:Nat):Int)).toNat≤2 ^ k - 1:=by
  rw[BitVec.toNat_and,hm];exact Nat.and_le_right
 refine⟨(BitVec.ofInt 64 a&&&BitVec.ofInt 64 ((2 ^ k - 1:Nat):Int)).toNat,?_,by omega⟩;rw[e,IntKind.wrap_i64];omega
theorem mq3 (x:BitVec 64) (k:Nat) (hk:k < 64):∃m:Nat,bits .and .u64 (x.toNat:Int) ((2 ^ k - 1:Nat):Int)=(m:Int)∧m < 2 ^ k∧m=x.toNat % 2 ^ k:=by
 have h2:2 ^ k < 2 ^ 64:=Nat.pow_lt_pow_right (by omega) hk;have hpos:0 < 2 ^ k:=Nat.pow_pos (by omega);have hm:((2 ^ k - 1:Nat):Int)=((BitVec.ofNat 64 (2 ^ k - 1)).toNat:Int):=by
  rw[BitVec.toNat_ofNat,Nat.mod_eq_of_lt (by omega)]
 refine⟨x.toNat % 2 ^ k,?_,Nat.mod_lt _ hpos,rfl⟩;rw[hm,fw2,BitVec.toNat_and,BitVec.toNat_ofNat,Nat.mod_eq_of_lt (by omega),Nat.and_two_pow_sub_one_eq_mod]
theorem bj5 (c:UInt8):((c.toNat:Int) % 4294967296)=((BitVec.ofNat 32 c.toNat).toNat:Int):=by
 have:=c.toNat_lt;simp;omega
theorem ak5 (c:UInt8):(c.toNat:Int)=((BitVec.ofNat 64 c.toNat).toNat:Int):=by
 have:=c.toNat_lt;simp
theorem int_eq {k:IntKind} {a b:Int} (h:a=b):Value.int k a=Value.int k b:=by rw[h]
theorem dy3 {v v':Value} (h:v=v'):Ending.returned v=Ending.returned v':=by rw[h]
end
section
open Go.RowKit
theorem jv2 (x:BitVec 32):bits .xor .u32 ((x.toNat:Int) / 2) (bits .and .u32 2197175160 (-bits .and .u32 (x.toNat:Int) 1 % 4294967296))=((Crc.step x).toNat:Int):=by
 have h1:bits .and .u32 (x.toNat:Int) 1=((x&&&1#32).toNat:Int):=fx2 x 1#32;have h2:-((x&&&1#32).toNat:Int) % 4294967296=((-(x&&&1#32)).toNat:Int):=by
  rw[BitVec.toNat_neg];have:=(x&&&1#32).isLt;omega
 have h3:((x.toNat:Int) / (2:Int))=((x >>> 1).toNat:Int):=by
  rw[BitVec.toNat_ushiftRight,Nat.shiftRight_eq_div_pow];omega
 have h4:bits .and .u32 2197175160 ((-(x&&&1#32)).toNat:Int)=((Crc.poly&&&-(x&&&1#32)).toNat:Int):=fx2 Crc.poly _;rw[h1,h2,h3,h4,rx1];rfl
theorem vk2 (x:BitVec 32):bits .xor .u32 IntKind.u32.max (x.toNat:Int)=((~~~x).toNat:Int):=by
 have h:bits .xor .u32 IntKind.u32.max (x.toNat:Int)=((BitVec.allOnes 32 ^^^ x).toNat:Int):=rx1 (BitVec.allOnes 32) x;rw[h,BitVec.allOnes_xor]
theorem vy2 (m:BitVec 32) (l:List UInt8) (k:Nat) (hl:k < l.length):Crc.add m (l.take (k+1))=Crc.byte (Crc.add m (l.take k)) l[k]:=by
 rw[List.take_succ_eq_append_getElem hl,Crc.dq2];rfl
theorem add_any (m:BitVec 32) (A:Option Addr) (n c:Nat) (l:List UInt8) (w:World) (hn:n≤9223372036854775807) (hr:Row w.heap.size w A n 1 (bts l)):
  Calls Tryz.prog 374 #[.int .u32 (m.toNat:Int),.slice A n c] w fun e w'=>e=.returned (.int .u32 ((Crc.add m l).toNat:Int))∧w=w':=by
 go_enter Tryz.func374,Tryz.ntmps374;go_wp2
 go_loop [0,9,6] (fun x i _=>∃k:Nat,k≤n∧i=.int .i64 k∧x=.int .u32 ((Crc.add m (l.take k)).toNat:Int)) (fun _ i _=>n - (intOf i).toNat)
 case atStart=>exact⟨0,Nat.zero_le _,rfl,rfl⟩
 case round=>
  obtain⟨k,hk,rfl,rfl⟩:=hrel
  by_cases hlt:k < n
  ·obtain⟨a,hl,rfl,_,hc⟩:=hr.bt hlt
   go_wp2
   go_loop [0,17] (fun x i=>∃j:Nat,j≤8∧i=.int .i64 j∧x=.int .u32 ((Crc.steps j (Crc.add m (l.take k) ^^^ BitVec.ofNat 32 l[k].toNat)).toNat:Int)) (fun _ i=>8 - (intOf i).toNat)
   case atStart=>exact⟨0,Nat.zero_le _,rfl,int_eq (by rw[bj5,rx1];rfl)⟩
   case round=>
    obtain⟨j,hj,rfl,rfl⟩:=hrel;generalize hx:Crc.steps j (Crc.add m (l.take k) ^^^ BitVec.ofNat 32 l[k].toNat)=x;have HX:=Lib.hid hx;clear hx;have hx0:0≤(x.toNat:Int):=by omega
    have hx1:(x.toNat:Int)≤4294967295:=by have:=x.isLt;omega
    by_cases hj8:j < 8
    ·go_wp2
     go_round
     case rel=>exact⟨j+1,by omega,by go_num,int_eq (by rw[jv2,Crc.cq3,HX.out])⟩
     case measure=>simp[intOf];omega
    ·go_wp2
     go_round
     case rel=>exact⟨k+1,by omega,by go_num,int_eq (by
      obtain rfl:j=8:=by omega
      rw[vy2 m l k hl,Crc.byte,HX.out])⟩
     case measure=>simp[intOf];omega
  ·go_wp2
   go_ret;exact⟨dy3 (int_eq (by rw[List.take_of_length_le (by have:=hr.yz;omega)])),rfl⟩
def kv2 (B:Nat) (w:World) (P:Option Addr) (n:Nat) (ls:List (List UInt8)):Prop:=
 ∃vs,Row B w P n 1 vs∧ls.length=n∧∀i (h:i < ls.length),∃A k c,vs[i]?=some (.slice A k c)∧k≤c∧c≤maxLen∧Row B w A k 1 (bts ls[i])
theorem kv2.at_ {B:Nat} {w:World} {P:Option Addr} {n:Nat} {ls:List (List UInt8)} (h:kv2 B w P n ls) {i:Nat} (hi:i < n):
  ∃a A k c,∃hl:i < ls.length,P=some a∧a.block < B∧w.cell? (a.add i)=some (.slice A k c)∧k≤c∧c≤maxLen∧Row B w A k 1 (bts ls[i]):=by
 obtain⟨vs,hr,hl,hf⟩:=h;obtain⟨a,v,e,b,hv,hc⟩:=hr.at1 hi;obtain⟨A,k,c,h1,h2,h3,h4⟩:=hf i (by omega);rw[h1]at hv;injection hv with hv;exact⟨a,A,k,c,by omega,e,b,by rw[hc,←hv],h2,h3,h4⟩
theorem kv2.below {B:Nat} {w w':World} {P:Option Addr} {n:Nat} {ls:List (List UInt8)} (h:kv2 B w P n ls) (hb:Below B w w'):kv2 B w' P n ls:=by
 obtain⟨vs,hr,hl,hf⟩:=h;exact⟨vs,hr.below hb,hl,fun i hi=>let ⟨A,k,c,h1,h2,h3,h4⟩:=hf i hi;⟨A,k,c,h1,h2,h3,h4.below hb⟩⟩
def kz1 (m:BitVec 32):List (List UInt8)→BitVec 32
 |[]=>m
 |l::ls=>kz1 (Crc.add m l) ls
theorem jy2 (m:BitVec 32) (a b:List (List UInt8)):kz1 m (a++b)=kz1 (kz1 m a) b:=by
 induction a generalizing m with
 |nil=>rfl
 |cons x l ih=>exact ih _
theorem yv2 (m:BitVec 32) (ls:List (List UInt8)) (k:Nat) (hl:k < ls.length):kz1 m (ls.take (k+1))=Crc.add (kz1 m (ls.take k)) ls[k]:=by
 rw[List.take_succ_eq_append_getElem hl,jy2];rfl
theorem cv3 (m:BitVec 32) (ls:List (List UInt8)):kz1 m ls=Crc.add m ls.flatten:=by
 induction ls generalizing m with
 |nil=>rfl
 |cons x l ih=>rw[List.flatten_cons,Crc.dq2];exact ih _
theorem yy3 (P:Option Addr) (n c:Nat) (ls:List (List UInt8)) (w:World) (hn:n≤9223372036854775807) (hr:kv2 w.heap.size w P n ls):
  Calls Tryz.prog 356 #[.slice P n c] w fun e w'=>e=.returned (.int .u32 ((Crc.sum ls.flatten).toNat:Int))∧w=w':=by
 go_enter Tryz.func356,Tryz.ntmps356;go_wp2
 go_loop [3,8,5] (fun x i _=>∃k:Nat,k≤n∧i=.int .i64 k∧x=.int .u32 ((kz1 Crc.ones (ls.take k)).toNat:Int)) (fun _ i _=>n - (intOf i).toNat)
 case atStart=>exact⟨0,Nat.zero_le _,rfl,rfl⟩
 case round=>
  obtain⟨k,hk,rfl,rfl⟩:=hrel
  by_cases hlt:k < n
  ·obtain⟨a,A,k',c',hl,rfl,_,hc,hkc,hcm,hr2⟩:=hr.at_ hlt
   unfold maxLen at hcm;go_wp2_with (go_at_call 374;refine(add_any _ _ _ _ _ _ (by omega) hr2).mono ?_;rintro e w' ⟨rfl,rfl⟩)
   go_round
   case rel=>exact⟨k+1,by omega,by go_num,int_eq (by rw[yv2 _ _ _ hl])⟩
   case measure=>simp[intOf];omega
  ·have hx0:0≤((kz1 Crc.ones (ls.take k)).toNat:Int):=by omega
   have hx1:((kz1 Crc.ones (ls.take k)).toNat:Int)≤4294967295:=by have:=(kz1 Crc.ones (ls.take k)).isLt;omega
   go_wp2;go_ret;have hlen:ls.length=n:=by obtain⟨_,_,h,_⟩:=hr;exact h
   refine⟨dy3 (int_eq ?_),rfl⟩;rw[List.take_of_length_le (by omega),cv3,vk2];rfl
theorem uj4 (w:World) (e:TypeId) (A:Option Addr) (n c:Nat) (l:List UInt8) (hr:Row w.heap.size w A n 1 (bts l)) (hc:n≤c) (hm:c≤maxLen):
  kv2 (w.alloc (.cells #[.slice A n c] e)).heap.size (w.alloc (.cells #[.slice A n c] e)) (some ⟨w.heap.size,0,none⟩) 1 [l]:=by
 refine⟨_,(Row.new w #[.slice A n c] e (n:=1) (size:=1) rfl).up (by simp),rfl,fun i hi=>?_⟩;obtain rfl:i=0:=by simpa using hi
 exact⟨A,n,c,rfl,hc,hm,(hr.alloc (Nat.le_refl _) _).up (by simp)⟩
theorem by5 (A:Option Addr) (n c:Nat) (l:List UInt8) (w:World) (hn:n≤c) (hm:c≤maxLen) (hr:Row w.heap.size w A n 1 (bts l)):
  Calls Tryz.prog 331 #[.slice A n c] w fun e w'=>e=.returned (.int .u32 ((Crc.sum l).toNat:Int))∧Below w.heap.size w w':=by
 have hb:=uj4 w 56 A n c l hr hn hm;go_enter Tryz.func331,Tryz.ntmps331;go_wp2_with (go_at_call 356;refine(yy3 _ _ _ _ _ (by omega) hb).mono ?_;rintro e w' ⟨rfl,rfl⟩);go_ret;refine⟨dy3 (int_eq (by simp)),(Below.refl _ _).alloc (Nat.le_refl _) _⟩
end
section
open Go.RowKit
theorem gx1:(Tryz.prog.info? 5).map (fun i=>(i.zero,i.size,i.bytes))=some (some (.int .u8 0),1,1):=by kernel_rfl
theorem ow3 (x:BitVec 32):bts (Crc.four x)=[.int .u8 ((x.toNat:Int) % 256),.int .u8 ((x.toNat:Int) / 256 % 256),.int .u8 ((x.toNat:Int) / 65536 % 256),.int .u8 ((x.toNat:Int) / 16777216)]:=by
 have:=x.isLt;have h4:x.toNat / 16777216 % 256=x.toNat / 16777216:=Nat.mod_eq_of_lt (by omega);simp[bts,Crc.four,h4]
theorem uy1 (A:Option Addr) (n c:Nat) (l:List UInt8) (w:World) (hn:n≤c) (hm:c≤maxLen) (hbig:n≤1073741824) (hr:Row w.heap.size w A n 1 (bts l)):
  Calls Tryz.prog 288 #[.slice A n c] w fun e w'=>∃A' c',e=.returned (.slice A' (n+4) c')∧w'.ownsRow w.heap.size 5 1 (.slice A' (n+4) c') (n+4) (bts (Crc.jw l))∧n+4≤c'∧c'≤maxLen∧Below w.heap.size w w':=by
 obtain⟨i0,hi0,hz0,hz1,hz2⟩:=info_parts gx1;go_enter Tryz.func288,Tryz.ntmps288;go_wp2_with fail;refine(by5 A n c l w hn hm hr).mono ?_;rintro e w1 ⟨rfl,hb1⟩;generalize hx:Crc.sum l=x;have HX:=Lib.hid hx;clear hx;have hx0:0≤(x.toNat:Int):=by omega
 have hx1:(x.toNat:Int)≤4294967295:=by have:=x.isLt;omega
 go_wp2_with (at_builtin;refine jq ?_);refine gy (uw rfl (.const (.slice none 0 0)) (.tmp 6) _ rfl w.heap.size 5 i0 _ 1 1 Tryz.underlying56 hi0 hz0 hz1 hz2 rfl (by omega) w hb1 hb1.size rfl w.heap.size A n c (bts l) rfl (hr.below hb1) (ak1 l) (by unfold maxLen;omega) (by omega) ?_);intro A2 c2 w2 hown2 hb2 hg2 hc2 hm2;go_wp2_with (at_builtin;refine jq ?_);have hrow:Row (w2.heap.size+1) (w2.alloc (.cells #[.int .u8 ((x.toNat:Int) % 256),.int .u8 ((x.toNat:Int) / 256 % 256),.int .u8 ((x.toNat:Int) / 65536 % 256),.int .u8 ((x.toNat:Int) / 16777216)] 5)) (some ⟨w2.heap.size,0,none⟩) 4 1 (bts (Crc.four x)):=by
  rw[ow3];exact Row.new w2 _ _ rfl
 refine gy (lq rfl (.tmp 7) (.tmp 19) _ rfl w.heap.size 5 i0 _ 1 1 Tryz.underlying56 hi0 hz0 hz1 hz2 rfl (by omega) w (hb2.alloc hb2.size _) (by have:=hb2.size;simp;omega) (.slice A2 n c2) n (bts l) rfl (hown2.alloc _) (w2.heap.size+1) _ 4 4 (bts (Crc.four x)) rfl hrow (ak1 _) (n+4) (bts (l++Crc.four x)) rfl (rk1 _ _).symm (by unfold maxLen;omega) (by omega) ?_);intro A3 c3 w3 hown3 hb3 _ hc3 hm3;go_wp2;go_ret;exact⟨A3,c3,rfl,by rw[Crc.jw,HX.out];exact hown3,hc3,hm3,hb3⟩
end
section
open Go Go.RowKit
def str (l:List UInt8):ByteArray:=⟨l.toArray⟩
theorem by1 (s:ByteArray):str s.data.toList=s:=by simp[str]
theorem rq (l:List UInt8):(str l).data.toList=l:=by simp[str]
theorem qx (l:List UInt8):(str l).size=l.length:=by simp[str,ByteArray.size]
structure Dw where
 d:Nat
 nb:Nat
 lb:Nat
 fv:Value
 tv:Value
 ps:List (Nat×Value)
def bz (p:Nat×Value):List Nat:=p.1::p.2.ownBlock.toList
def Dw.foot (X:Dw):List Nat:=[X.d] ++([X.nb] ++([X.lb] ++(X.fv.ownBlock.toList++(X.tv.ownBlock.toList++X.ps.flatMap bz))))
def ptrV (p:Nat×Value):Value:=.pointer (some ⟨p.1,0,none⟩)
def iw (t:Tn):List Value:=[.int .i64 (t.kind:Int),.int .i64 (t.file:Int),.string (str t.a),.string (str t.b)]
structure mx1 (w:World) (p:Nat×Value) (f:List UInt8×Nat):Prop where
 box:BoxO w 116 p.1 [p.2,.int .i64 (f.2:Int)]
 row:w.ownsRow 0 5 1 p.2 f.1.length (bts f.1)
abbrev qj (w:World) (nb n:Nat) (M:Nm):Prop:=w.ownsMap Tryz.prog 9 (plainElem (H:=Unit) Tryz.prog 3) nb n (Nm.enc M)
def Dw.cells (X:Dw) (S:Sd):List Value:=[.int .i64 (S.quota:Int),X.fv,.map (some X.nb),.map (some X.lb),X.tv,.int .i64 S.calls,.bool S.dead,.int .i64 (S.stop:Int),.int .i64 (S.fail:Int)]
structure DK (w:World) (X:Dw) (S:Sd):Prop where
 box:BoxO w 99 X.d (X.cells S)
 names:qj w X.nb S.names.length S.names
 lasted:qj w X.lb S.lasted.length S.lasted
 files:w.ownsRow 0 114 1 X.fv S.files.length (X.ps.map ptrV)
 file:∀i (h:i < S.files.length) (h2:i < X.ps.length),mx1 w X.ps[i] S.files[i]
 turns:w.ownsRow 0 118 4 X.tv S.turns.length (S.turns.flatMap iw)
 nodup:X.foot.Nodup
variable {w w':World} {X:Dw} {S:Sd} {G:List Nat}
theorem DK.flen (h:DK w X S):X.ps.length=S.files.length:=by
 have:=h.files.1;simpa using this
theorem ny {base n size:Nat} {e:TypeId} {v:Value} {xs:List Value} (h:w.ownsRow base e size v n xs) (c:Chg G w w') (hg:∀g,v.ownBlock=some g→g∉G):w'.ownsRow base e size v n xs:=by
 refine⟨h.1,?_⟩
 rcases h.2 with h0|⟨g,cap,cur,rfl,h1,h2,r⟩
 ·exact .inl h0
 ·exact .inr ⟨g,cap,cur,rfl,h1,(c.block g (Array.getElem?_eq_some_iff.1 h2).1 (hg g rfl)).trans h2,r⟩
theorem tq {b n:Nat} {D:DataW Unit} {k e:TypeId} (h:w.ownsMap Tryz.prog k (plainElem (H:=Unit) Tryz.prog e) b n D) (c:Chg G w w') (hg:b∉G):w'.ownsMap Tryz.prog k (plainElem (H:=Unit) Tryz.prog e) b n D:=by
 have hlt:=h.lt;obtain⟨es,clock,hb,r⟩:=h;exact⟨es,clock,(c.block b hlt hg).trans hb,r⟩
theorem dk4 {b n:Nat} {D:DataW Unit} {k e:TypeId} (h:w.ownsMap Tryz.prog k (plainElem (H:=Unit) Tryz.prog e) b n D):w.ownsMap Tryz.prog k (plainElem (H:=Unit) Tryz.prog e) b (Maps.size D) D:=by
 obtain⟨es,clock,hb,F,hs,rfl⟩:=h;exact⟨es,clock,hb,F,by rw[Maps.size_eq,length_sorted];simp,rfl⟩
theorem yz1 {b n:Nat} {M:Nm} (h:qj w b n M):qj w b M.length M:=by
 have h1:=dk4 h
 rwa [Nm.uw1]at h1
theorem mx1.chg {p:Nat×Value} {f:List UInt8×Nat} (h:mx1 w p f) (c:Chg G w w') (hg:∀g∈bz p,g∉G):mx1 w' p f:=
 ⟨h.box.chg c (hg _ (by simp[bz])),ny h.row c (fun g e=>hg g (by simp[bz,e]))⟩
theorem aj {g:Nat}:g∈X.foot↔g=X.d∨g=X.nb∨g=X.lb∨X.fv.ownBlock=some g∨X.tv.ownBlock=some g∨∃p∈X.ps,g∈bz p:=by
 simp[Dw.foot,List.mem_flatMap]
theorem DK.lt (h:DK w X S):∀g∈X.foot,g < w.heap.size:=by
 intro g hg
 rcases aj.1 hg with rfl|rfl|rfl|h1|h1|⟨p,hp,hgp⟩
 ·exact h.box.lt
 ·exact h.names.lt
 ·exact h.lasted.lt
 ·exact(h.files.lt g h1).2
 ·exact(h.turns.lt g h1).2
 ·obtain⟨i,hi,rfl⟩:=List.getElem_of_mem hp
  have hf:=h.file i (by have:=h.flen;omega) hi;simp only[bz,List.mem_cons,Option.mem_toList]at hgp
  rcases hgp with rfl|hgp
  ·exact hf.box.lt
  ·exact(hf.row.lt g hgp).2
structure Apart (X:Dw):Prop where
 d_nb:X.d≠X.nb
 d_lb:X.d≠X.lb
 nb_lb:X.nb≠X.lb
 fv:∀g,X.fv.ownBlock=some g→g≠X.d∧g≠X.nb∧g≠X.lb∧X.tv.ownBlock≠some g
 tv:∀g,X.tv.ownBlock=some g→g≠X.d∧g≠X.nb∧g≠X.lb∧X.fv.ownBlock≠some g
 ps:∀p∈X.ps,∀g∈bz p,g≠X.d∧g≠X.nb∧g≠X.lb∧X.fv.ownBlock≠some g∧X.tv.ownBlock≠some g
 each:∀i j (hi:i < X.ps.length) (hj:j < X.ps.length),i≠j→∀g∈bz X.ps[i],g∉bz X.ps[j]
 self:∀p∈X.ps,p.2.ownBlock≠some p.1
theorem ew2 {α:Type} (f:α→List Nat):∀(l:List α),(l.flatMap f).Nodup→(∀i j (hi:i < l.length) (hj:j < l.length),i≠j→∀g∈f l[i],g∉f l[j])∧∀p∈l,(f p).Nodup
 |[],_=>⟨fun i j hi=>by simp at hi,fun p hp=>by cases hp⟩
 |a::r,h=>by
  rw[List.flatMap_cons]at h;obtain⟨h1,h2,h3⟩:=List.nodup_append.1 h;obtain⟨i1,i2⟩:=ew2 f r h2;refine⟨fun i j hi hj hne g hg hg'=>?_,fun p hp=>?_⟩
  ·rcases i with _|i<;>rcases j with _|j
   ·exact hne rfl
   ·exact h3 g (by simpa using hg) g (List.mem_flatMap.2 ⟨r[j]'(by simpa using hj),List.getElem_mem _,by simpa using hg'⟩) rfl
   ·exact h3 g (by simpa using hg') g (List.mem_flatMap.2 ⟨r[i]'(by simpa using hi),List.getElem_mem _,by simpa using hg⟩) rfl
   ·exact i1 i j (by simpa using hi) (by simpa using hj) (by omega) g (by simpa using hg) (by simpa using hg')
  ·rcases List.mem_cons.1 hp with rfl|hp
   ·exact h1
   ·exact i2 p hp
theorem ew4 (h:X.foot.Nodup):Apart X:=by
 unfold Dw.foot at h;obtain⟨_,h,a1⟩:=List.nodup_append.1 h;obtain⟨_,h,a2⟩:=List.nodup_append.1 h;obtain⟨_,h,a3⟩:=List.nodup_append.1 h;obtain⟨_,h,a4⟩:=List.nodup_append.1 h;obtain⟨_,h,a5⟩:=List.nodup_append.1 h;obtain⟨e1,e2⟩:=ew2 bz X.ps h;simp only[List.mem_append,List.mem_singleton,Option.mem_toList,List.mem_flatMap]at a1 a2 a3 a4 a5;refine⟨a1 _ rfl _ (.inl rfl),a1 _ rfl _ (.inr (.inl rfl)),a2 _ rfl _ (.inl rfl),fun g e=>⟨(a1 _ rfl g (.inr (.inr (.inl e)))).symm,(a2 _ rfl g (.inr (.inl e))).symm,(a3 _ rfl g (.inl e)).symm,fun e2=>a4 g e g (.inl e2) rfl⟩,
  fun g e=>⟨(a1 _ rfl g (.inr (.inr (.inr (.inl e))))).symm,(a2 _ rfl g (.inr (.inr (.inl e)))).symm,(a3 _ rfl g (.inr (.inl e))).symm,fun e2=>a4 g e2 g (.inl e) rfl⟩,
  fun p hp g hg=>⟨(a1 _ rfl g (.inr (.inr (.inr (.inr ⟨p,hp,hg⟩))))).symm,(a2 _ rfl g (.inr (.inr (.inr ⟨p,hp,hg⟩)))).symm,(a3 _ rfl g (.inr (.inr ⟨p,hp,hg⟩))).symm,fun e2=>a4 g e2 g (.inr ⟨p,hp,hg⟩) rfl,fun e2=>a5 g e2 g ⟨p,hp,hg⟩ rfl⟩,e1,fun p hp e=>?_⟩
 have hn:=e2 p hp;unfold bz at hn;exact(List.nodup_cons.1 hn).1 (by simp[e])
theorem DK.apart (h:DK w X S):Apart X:=ew4 h.nodup
theorem DK.chg (h:DK w X S) (c:Chg G w w') (hg:∀g∈G,g∉X.foot):DK w' X S:=by
 have hn:∀g∈X.foot,g∉G:=fun g h1 h2=>hg g h2 h1;exact⟨h.box.chg c (hn _ (aj.2 (.inl rfl))),tq h.names c (hn _ (aj.2 (.inr (.inl rfl)))),tq h.lasted c (hn _ (aj.2 (.inr (.inr (.inl rfl))))),ny h.files c (fun g e=>hn g (aj.2 (.inr (.inr (.inr (.inl e)))))),
  fun i hi h2=>(h.file i hi h2).chg c (fun g e=>hn g (aj.2 (.inr (.inr (.inr (.inr (.inr ⟨_,List.getElem_mem h2,e⟩))))))),ny h.turns c (fun g e=>hn g (aj.2 (.inr (.inr (.inr (.inr (.inl e))))))),h.nodup⟩
theorem DK.below (h:DK w X S) (hb:Below w.heap.size w w'):DK w' X S:=h.chg (Chg.of_below hb []) (fun g hg=>by cases hg)
theorem DK.cy5 {S':Sd} (h:DK w X S) (c:Chg [X.d] w w') (hb:BoxO w' 99 X.d (X.cells S')) (e1:S'.names=S.names) (e2:S'.lasted=S.lasted) (e3:S'.files=S.files) (e4:S'.turns=S.turns):DK w' X S':=by
 have a:=h.apart;obtain⟨q,fs,nm,la,tu,ca,de,st,fa⟩:=S';simp only at e1 e2 e3 e4;subst e1 e2 e3 e4;exact⟨hb,tq h.names c (by simpa using a.d_nb.symm),tq h.lasted c (by simpa using a.d_lb.symm),ny h.files c (fun g e=>by simpa using (a.fv g e).1),fun i hi h2=>(h.file i hi h2).chg c (fun g e=>by simpa using (a.ps _ (List.getElem_mem h2) g e).1),
  ny h.turns c (fun g e=>by simpa using (a.tv g e).1),h.nodup⟩
def Upd (X:Dw) (w w':World) (S':Sd):Prop:=∃X',X'.d=X.d∧DK w' X' S'∧Chg X.foot w w'∧∀g∈X'.foot,g∈X.foot∨w.heap.size≤g
theorem Upd.same (h:DK w' X S) (c:Chg X.foot w w'):Upd X w w' S:=⟨X,rfl,h,c,fun _ hg=>.inl hg⟩
theorem qj1 {l1 a a' l2:List Nat} {n:Nat} (h:(l1++(a++l2)).Nodup) (lt:∀x∈l1++(a++l2),x < n) (ha:a'.Nodup) (hx:∀x∈a',x∈a∨n≤x):(l1++(a'++l2)).Nodup:=by
 obtain⟨h1,h2,h3⟩:=List.nodup_append.1 h;obtain⟨h4,h5,h6⟩:=List.nodup_append.1 h2;refine List.nodup_append.2 ⟨h1,List.nodup_append.2 ⟨ha,h5,fun x hx1 y hy e=>?_⟩,fun x hx1 y hy e=>?_⟩
 ·subst e
  rcases hx x hx1 with h7|h7
  ·exact h6 x h7 x hy rfl
  ·have:=lt x (by simp[hy]);omega
 ·subst e
  rcases List.mem_append.1 hy with hy|hy
  ·rcases hx x hy with h7|h7
   ·exact h3 x hx1 x (by simp[h7]) rfl
   ·have:=lt x (by simp[hx1]);omega
  ·exact h3 x hx1 x (by simp[hy]) rfl
theorem DK.lx1 {n:Nat} {M:Nm} (h:DK w X S) (hn:qj w' X.nb n M) (c:Chg [X.nb] w w'):DK w' X { S with names:=M }:=by
 have a:=h.apart;exact⟨h.box.chg c (by simpa using a.d_nb),yz1 hn,tq h.lasted c (by simpa using a.nb_lb.symm),ny h.files c (fun g e=>by simpa using (a.fv g e).2.1),fun i hi h2=>(h.file i hi h2).chg c (fun g e=>by simpa using (a.ps _ (List.getElem_mem h2) g e).2.1),
  ny h.turns c (fun g e=>by simpa using (a.tv g e).2.1),h.nodup⟩
theorem DK.mk4 {tv:Value} {ts:List Tn} (h:DK w X S) (hr:w'.ownsRow 0 118 4 tv ts.length (ts.flatMap iw)) (c:Chg ([X.d] ++X.tv.ownBlock.toList) w w') (hv:∀g,tv.ownBlock=some g→X.tv.ownBlock=some g∨w.heap.size≤g)
  (hb:BoxO w' 99 X.d (({ X with tv:=tv }:Dw).cells { S with turns:=ts })):DK w' { X with tv:=tv } { S with turns:=ts }:=by
 have a:=h.apart;have nt:∀g,g≠X.d→X.tv.ownBlock≠some g→g∉[X.d] ++X.tv.ownBlock.toList:=fun g h1 h2 h3=>by
  rcases List.mem_append.1 h3 with h3|h3
  ·exact h1 (by simpa using h3)
  ·exact h2 (by simpa using h3)
 refine⟨hb,tq h.names c (nt _ a.d_nb.symm (fun e=>(a.tv _ e).2.1 rfl)),tq h.lasted c (nt _ a.d_lb.symm (fun e=>(a.tv _ e).2.2.1 rfl)),ny h.files c (fun g e=>nt g (a.fv g e).1 (a.fv g e).2.2.2),
  fun i hi h2=>(h.file i hi h2).chg c (fun g e=>nt g (a.ps _ (List.getElem_mem h2) g e).1 (a.ps _ (List.getElem_mem h2) g e).2.2.2.2),hr,?_⟩
 have hl:=h.lt;have hnd:=h.nodup;unfold Dw.foot at hl hnd ⊢;simp only[←List.append_assoc]at hl hnd ⊢;simp only[List.append_assoc ([X.d] ++[X.nb] ++[X.lb] ++X.fv.ownBlock.toList)]at hl hnd ⊢;exact qj1 hnd hl (by cases tv.ownBlock<;>simp) (fun x hx=>by simpa using hv x (by simpa using hx))
theorem DK.jy {i:Nat} {v:Value} {f:List UInt8×Nat} (h:DK w X S) (hi:i < X.ps.length) (hf:mx1 w' ((X.ps[i]).1,v) f) (c:Chg (bz X.ps[i]) w w') (hv:∀g,v.ownBlock=some g→(X.ps[i]).2.ownBlock=some g∨w.heap.size≤g):
  DK w' { X with ps:=X.ps.set i ((X.ps[i]).1,v) } { S with files:=S.files.set i f }:=by
 have a:=h.apart;have hp:=a.ps _ (List.getElem_mem hi);have nt:∀g,(g=X.d∨g=X.nb∨g=X.lb∨X.fv.ownBlock=some g∨X.tv.ownBlock=some g)→g∉bz X.ps[i]:=fun g h1 h2=>by
  obtain⟨b1,b2,b3,b4,b5⟩:=hp g h2
  rcases h1 with h1|h1|h1|h1|h1
  ·exact b1 h1
  ·exact b2 h1
  ·exact b3 h1
  ·exact b4 h1
  ·exact b5 h1
 refine⟨h.box.chg c (nt _ (.inl rfl)),tq h.names c (nt _ (.inr (.inl rfl))),tq h.lasted c (nt _ (.inr (.inr (.inl rfl)))),?_,fun j hj h2=>?_,ny h.turns c (fun g e=>nt g (.inr (.inr (.inr (.inr e))))),?_⟩
 ·have h1:=ny h.files c (fun g e=>nt g (.inr (.inr (.inr (.inl e)))))
  have e:(X.ps.set i ((X.ps[i]).1,v)).map ptrV=X.ps.map ptrV:=by
   rw[List.map_set];refine List.ext_getElem (by simp) fun k h3 h4=>?_;rw[List.getElem_set];split
   ·subst_vars;simp[ptrV]
   ·rfl
  simpa [e] using h1
 ·simp only[List.length_set]at hj h2
  simp only[List.getElem_set];split
  ·subst_vars;exact hf
  ·rename_i hne
   exact(h.file j hj h2).chg c (fun g hg hg'=>a.each i j hi h2 hne g hg' hg)
 ·have hl:=h.lt
  have hnd:=h.nodup;have e1:X.ps.flatMap bz=(X.ps.take i).flatMap bz++(bz X.ps[i] ++(X.ps.drop (i+1)).flatMap bz):=by
   conv=>lhs;rw[←List.take_append_drop i X.ps,List.flatMap_append,List.drop_eq_getElem_cons hi,List.flatMap_cons]
  have e2:(X.ps.set i ((X.ps[i]).1,v)).flatMap bz=(X.ps.take i).flatMap bz++(bz ((X.ps[i]).1,v)++(X.ps.drop (i+1)).flatMap bz):=by
   rw[List.set_eq_take_append_cons_drop,if_pos hi,List.flatMap_append,List.flatMap_cons]
  unfold Dw.foot at hl hnd ⊢;simp only[e2];rw[e1]at hl hnd;simp only[←List.append_assoc]at hl hnd ⊢;simp only[List.append_assoc ([X.d] ++[X.nb] ++[X.lb] ++X.fv.ownBlock.toList++X.tv.ownBlock.toList++(X.ps.take i).flatMap bz)]at hl hnd ⊢;refine qj1 hnd hl ?_ (fun x hx=>?_)
  ·unfold bz
   simp only
   cases hvb:v.ownBlock with
   |none=>simp
   |some g=>
    simp only[Option.toList_some,List.nodup_cons,List.mem_singleton,List.not_mem_nil,not_false_eq_true,List.nodup_nil,and_true];intro e
    rcases hv g hvb with h1|h1
    ·exact a.self _ (List.getElem_mem hi) (by rw[h1,e])
    ·have:=(h.file i (by have:=h.flen;omega) hi).box.lt
     omega
  ·simp only[bz,List.mem_cons,Option.mem_toList]at hx ⊢
   rcases hx with rfl|hx
   ·exact .inl (.inl rfl)
   ·rcases hv x hx with h1|h1
    ·exact .inl (.inr h1)
    ·exact .inr h1
theorem DK.tz4 {fv:Value} {b:Nat} (h:DK w X S) (hr:w'.ownsRow 0 114 1 fv (S.files.length+1) ((X.ps++[(b,Value.slice none 0 0)]).map ptrV)) (hb0:w.heap.size≤b) (hbv:fv.ownBlock≠some b)
  (hf:BoxO w' 116 b [.slice none 0 0,.int .i64 0]) (c:Chg ([X.d] ++X.fv.ownBlock.toList) w w') (hv:∀g,fv.ownBlock=some g→X.fv.ownBlock=some g∨w.heap.size≤g)
  (hb:BoxO w' 99 X.d (({ X with fv:=fv,ps:=X.ps++[(b,Value.slice none 0 0)] }:Dw).cells { S with files:=S.files++[([],0)] })):DK w' { X with fv:=fv,ps:=X.ps++[(b,Value.slice none 0 0)] } { S with files:=S.files++[([],0)] }:=by
 have a:=h.apart;have nt:∀g,g≠X.d→X.fv.ownBlock≠some g→g∉[X.d] ++X.fv.ownBlock.toList:=fun g h1 h2 h3=>by
  rcases List.mem_append.1 h3 with h3|h3
  ·exact h1 (by simpa using h3)
  ·exact h2 (by simpa using h3)
 have hfl:=h.flen;refine⟨hb,tq h.names c (nt _ a.d_nb.symm (fun e=>(a.fv _ e).2.1 rfl)),tq h.lasted c (nt _ a.d_lb.symm (fun e=>(a.fv _ e).2.2.1 rfl)),by simpa using hr,fun j hj h2=>?_,
  ny h.turns c (fun g e=>nt g (a.tv g e).1 (a.tv g e).2.2.2),?_⟩
 ·simp only[List.length_append,List.length_singleton]at hj h2
  rcases Nat.lt_or_ge j X.ps.length with h3|h3
  ·simp only[List.getElem_append_left h3,List.getElem_append_left (show j < S.files.length by omega)]
   exact(h.file j (by omega) h3).chg c (fun g e=>nt g (a.ps _ (List.getElem_mem h3) g e).1 (a.ps _ (List.getElem_mem h3) g e).2.2.2.1)
  ·have e1:j=X.ps.length:=by omega
   subst e1;have e2:(X.ps++[(b,Value.slice none 0 0)])[X.ps.length]'(by simp)=(b,Value.slice none 0 0):=by simp
   have e3:(S.files++[(([]:List UInt8),0)])[X.ps.length]'(by simp[hfl])=([],0):=by simp[hfl]
   rw[e2,e3];exact⟨hf,World.ownsRow_nil _ _ _ _⟩
 ·have hl:=h.lt
  have hnd:=h.nodup;have hnew:(([X.d] ++([X.nb] ++([X.lb] ++(fv.ownBlock.toList++(X.tv.ownBlock.toList++X.ps.flatMap bz)))))).Nodup:=by
   unfold Dw.foot at hl hnd;simp only[←List.append_assoc]at hl hnd ⊢;simp only[List.append_assoc ([X.d] ++[X.nb] ++[X.lb])]at hl hnd ⊢;simp only[List.append_assoc X.fv.ownBlock.toList,List.append_assoc fv.ownBlock.toList]at hl hnd ⊢;exact qj1 hnd hl (by cases fv.ownBlock<;>simp) (fun x hx=>by simpa using hv x (by simpa using hx))
  unfold Dw.foot;simp only[List.flatMap_append,List.flatMap_cons,List.flatMap_nil,List.append_nil];have e:bz (b,Value.slice none 0 0)=[b]:=by simp[bz,Value.ownBlock]
  rw[e];simp only[←List.append_assoc]at hnew ⊢;refine List.nodup_append.2 ⟨hnew,by simp,fun x hx y hy e0=>?_⟩;simp only[List.mem_singleton]at hy;subst hy;subst e0;have hll:∀g∈X.foot,g≠x:=fun g hg=>by have:=hl g hg;omega
  simp only[List.mem_append,List.mem_singleton,Option.mem_toList]at hx
  rcases hx with ((((hx|hx)|hx)|hx)|hx)|hx
  ·exact hll _ (aj.2 (.inl rfl)) hx.symm
  ·exact hll _ (aj.2 (.inr (.inl rfl))) hx.symm
  ·exact hll _ (aj.2 (.inr (.inr (.inl rfl)))) hx.symm
  ·exact hbv hx
  ·exact hll _ (aj.2 (.inr (.inr (.inr (.inr (.inl hx)))))) rfl
  ·obtain⟨p,hp,hg⟩:=List.mem_flatMap.1 hx
   exact hll _ (aj.2 (.inr (.inr (.inr (.inr (.inr ⟨p,hp,hg⟩)))))) rfl
end
end Go.Proofs.YthjdpplgfdihoaaGreatDoor
