/- Texts PlainFrame, PlainEdit, Open, Box, Flat, PlainView, Once, OnceB, SOnce, OwnSet in one. No conditions. -/
import Derived.Test.YthjdpplgfdihoaaGreatDoorBunAA
import Derived.Deep.DeepCutAuto

set_option linter.unusedSimpArgs false
set_option linter.unusedVariables false
set_option maxRecDepth 100000
set_option maxHeartbeats 16000000
namespace Go.Proofs.YthjdpplgfdihoaaGreatDoor
section
namespace Fr
def head (k n:Nat):List UInt8:=[UInt8.ofNat k,UInt8.ofNat (n / 65536),UInt8.ofNat (n / 256),UInt8.ofNat n]
def put (k:Nat) (b:List UInt8):List UInt8:=Crc.ny (head k b.length)++Crc.ny b
def u (l:List UInt8) (i:Nat):Nat:=(l.getD i 0).toNat
def size (l:List UInt8):Nat:=u l 1 *65536+u l 2 *256+u l 3
def take (l:List UInt8) (p:Nat):Nat×List UInt8×Nat×Nat:=
 if l.length - p < 8 then (0,[],0,4)
 else if Crc.ny ((l.drop p).take 4)≠(l.drop p).take 8 then (0,[],0,5)
 else if u (l.drop p) 0 < 1∨100 < u (l.drop p) 0∨60000 < size (l.drop p) then (0,[],0,3)
 else if l.length - p - 8 < size (l.drop p)+4 then (0,[],0,4)
 else if Crc.ny ((l.drop (p+8)).take (size (l.drop p)))≠(l.drop (p+8)).take (size (l.drop p)+4) then (0,[],0,5)
 else (u (l.drop p) 0,(l.drop (p+8)).take (size (l.drop p)),p+8+size (l.drop p)+4,0)
theorem ek3 (x:BitVec 32):(Crc.four x).length=4:=rfl
theorem sk1 (l:List UInt8):(Crc.ny l).length=l.length+4:=by simp[Crc.ny,ek3]
theorem uj (k:Nat) (b:List UInt8):(put k b).length=b.length+12:=by simp[put,sk1,head];omega
theorem u8n (n:Nat) (h:n < 256):(UInt8.ofNat n).toNat=n:=by
 rw[UInt8.toNat_ofNat'];omega
theorem by4 {l:List UInt8} {p:Nat} (h:(take l p).2.2.2=0):p+12≤(take l p).2.2.1∧(take l p).2.2.1≤l.length:=by
 unfold take at h ⊢;split at h
 ·simp at h
 ·split at h
  ·simp at h
  ·split at h
   ·simp at h
   ·split at h
    ·simp at h
    ·split at h
     ·simp at h
     ·rename_i h1 h2 h3 h4 h5
      rw[if_neg h1,if_neg h2,if_neg h3,if_neg h4,if_neg h5];simp only;omega
theorem qz3 (k n:Nat) (r:List UInt8) (hk:k < 256) (hn:n≤60000):u (head k n++r) 0=k∧size (head k n++r)=n:=by
 constructor
 ·simp[u,head,u8n k hk]
 ·simp only[size,u,head,N_,y_,bE_,List.getD_cons_succ,UInt8.toNat_ofNat']
  omega
theorem ox1 (l r:List UInt8):(Crc.ny l++r).take l.length=l:=by
 simp[Crc.ny,D_]
theorem tk1 (l r:List UInt8):(Crc.ny l++r).take (l.length+4)=Crc.ny l:=by
 rw[←sk1,cf_]
theorem vq3 (k:Nat) (b r:List UInt8):put k b++r=head k b.length++(Crc.four (Crc.sum (head k b.length))++(Crc.ny b++r)):=by
 simp[put,Crc.ny]
theorem tw4 (k:Nat) (b r:List UInt8):(put k b++r).drop 8=Crc.ny b++r:=by
 have e:put k b++r=Crc.ny (head k b.length)++(Crc.ny b++r):=by simp[put]
 have h8:(Crc.ny (head k b.length)).length=8:=by rw[sk1];rfl
 rw[e,←h8,a8_]
theorem ik1 (a:List UInt8) (k:Nat) (b r:List UInt8) (h1:1≤k) (h2:k≤100) (hb:b.length≤60000):take (a++(put k b++r)) a.length=(k,b,a.length+(put k b).length,0):=by
 have hd:(a++(put k b++r)).drop a.length=put k b++r:=a8_;have hd8:(a++(put k b++r)).drop (a.length+8)=Crc.ny b++r:=by rw[←aG_,hd,tw4]
 have hl:(a++(put k b++r)).length - a.length=b.length+12+r.length:=by simp[uj]
 obtain⟨e0,e1⟩:=qz3 k b.length (Crc.four (Crc.sum (head k b.length))++(Crc.ny b++r)) (by omega) hb;rw[←vq3]at e0 e1;have e4:(put k b++r).take 4=head k b.length:=by
  have:=ox1 (head k b.length) (Crc.ny b++r);rw[show put k b++r=Crc.ny (head k b.length)++(Crc.ny b++r) from by simp[put]];exact this
 have e8:(put k b++r).take 8=Crc.ny (head k b.length):=by
  have:=tk1 (head k b.length) (Crc.ny b++r);rw[show put k b++r=Crc.ny (head k b.length)++(Crc.ny b++r) from by simp[put]];exact this
 unfold take;rw[hl,hd,hd8,e0,e1,e4,e8,ox1,tk1,if_neg (by omega),if_neg (fun h=>h rfl),if_neg (by omega),if_neg (by omega),if_neg (fun h=>h rfl),uj];rw[show a.length+8+b.length+4=a.length+(b.length+12) from by omega]
end Fr
end
section
structure Vw where
 log:Int
 files:List (Int×Int)
 floor:Nat
 cert:Nat
 at_:Nat
 lease:Nat
structure Ed where
 drop:List Int
 add:List (Int×Int)
 log:Int
 floor:Nat
 cert:Nat
 at_:Nat
 lease:Nat
def isNum (n:Int):Bool:=decide (1≤n) &&decide (n≤1073741824)
def wz (f:Int×Int):Bool:=isNum f.2&&(decide (0≤f.1) &&decide (f.1≤3))
def tx2 (a b c d:Nat):Bool:=decide (a≤281474976710656) &&decide (b≤281474976710656) &&decide (c≤281474976710656) &&decide (d≤281474976710656)
def apart:List (Int×Int)→Bool
 |[]=>true
 |f::r=>r.all (fun g=>!(g.2==f.2)) &&apart r
def Vw.ok (v:Vw):Bool:=isNum v.log&&decide (v.files.length≤40) &&tx2 v.floor v.cert v.at_ v.lease&&v.files.all wz&&apart v.files
def Ed.may (e:Ed):Bool:=decide (e.drop.length≤40) &&decide (e.add.length≤40) &&(decide (0≤e.log) &&decide (e.log≤1073741824)) &&tx2 e.floor e.cert e.at_ e.lease&&e.drop.all isNum&&e.add.all wz
def dropAll:List Int→List (Int×Int)→Option (List (Int×Int))
 |[],fs=>some fs
 |n::r,fs=>if fs.any (fun f=>f.2==n) then dropAll r (fs.eraseP fun f=>f.2==n) else none
def orElse (a b:Nat):Nat:=if a=0 then b else a
def Vw.app (v:Vw) (e:Ed):Option Vw:=match dropAll e.drop v.files with
 |none=>none
 |some fs=>if (Vw.ok { log:=if e.log=0 then v.log else e.log,files:=fs++e.add,floor:=orElse e.floor v.floor,cert:=orElse e.cert v.cert,at_:=orElse e.at_ v.at_,lease:=orElse e.lease v.lease }) then
   some { log:=if e.log=0 then v.log else e.log,files:=fs++e.add,floor:=orElse e.floor v.floor,cert:=orElse e.cert v.cert,at_:=orElse e.at_ v.at_,lease:=orElse e.lease v.lease } else none
def Vw.none_:Vw:=⟨0,[],0,0,0,0⟩
def Vw.whole (v:Vw):Ed:=⟨[],v.files,v.log,v.floor,v.cert,v.at_,v.lease⟩
def Ed.bytes (e:Ed):List UInt8:=Pn.list (e.drop.map Int.toNat)++(Pn.put e.add.length++(e.add.flatMap (fun f=>Pn.put f.1.toNat++Pn.put f.2.toNat)++
 (Pn.put e.log.toNat++(Pn.put e.floor++(Pn.put e.cert++(Pn.put e.at_++Pn.put e.lease))))))
def Ed.rec_ (e:Ed):List UInt8:=Fr.put 6 e.bytes
theorem kv2 {α:Type} (f:α→List UInt8) (n:Nat):∀l:List α,(∀x∈l,(f x).length≤n)→(l.flatMap f).length≤l.length *n
 |[],_=>by simp
 |x::r,h=>by
  have h1:=h x (by simp);have h2:=kv2 f n r (fun y hy=>h y (by simp[hy]));simp only[M_,e_,r_,bl_];omega
theorem Ed.aq1 (e:Ed) (h:e.may=true):e.bytes.length≤2000:=by
 simp only[Ed.may,K_,decide_eq_true_eq]at h;have h1:=kv2 Pn.put 10 (e.drop.map Int.toNat) (fun x _=>(Pn.ik x).2);have h2:=kv2 (fun f:Int×Int=>Pn.put f.1.toNat++Pn.put f.2.toNat) 20 e.add (fun f _=>by
  have:=(Pn.ik f.1.toNat).2;have:=(Pn.ik f.2.toNat).2;simp only[e_];omega)
 have a1:=(Pn.ik (e.drop.map Int.toNat).length).2;have a2:=(Pn.ik e.add.length).2;have a3:=(Pn.ik e.log.toNat).2;have a4:=(Pn.ik e.floor).2;have a5:=(Pn.ik e.cert).2;have a6:=(Pn.ik e.at_).2;have a7:=(Pn.ik e.lease).2;have e1:(e.drop.map Int.toNat).length=e.drop.length:=by simp
 simp only[Ed.bytes,Pn.list,e_];rw[e1]at h1;omega
end
section
open Go.RowKit
theorem ty1 {B n:Nat} {w:World} {A:Option Addr} {l:List UInt8} (h:Row B w A n 1 (bts l)) (c:Nat):(convert 56 9 (.slice A n c)).run Tryz.prog w=.ok (.string ⟨l.toArray⟩) w:=
 qv4 _ _ 5 Tryz.underlying56 Tryz.underlying5 Tryz.underlying9 h c
theorem jy3 (A:Option Addr) (n c:Nat) (l:List UInt8) (w:World) (hn:n≤c) (hm:c≤maxLen) (h4:4≤n) (hbig:n≤1073741824) (hr:Row w.heap.size w A n 1 (bts l)) (hne:(Crc.ny (l.take (n - 4))==l)=false):
  Calls Tryz.prog 228 #[.slice A n c] w fun e w'=>e=.returned (.tuple #[.slice none 0 0,.int .i64 5])∧Below w.heap.size w w':=by
 have hm':c≤9223372036854775807:=hm;have hcut:Row w.heap.size w A (n - 4) 1 (bts (l.take (n - 4))):=by
  have:=hr.pre (m:=n - 4) (by omega)
  rwa [aW_,←gz1]at this
 have hcv:=ty1 hr.drew c;go_enter Tryz.func228,Tryz.ntmps228;go_upto_region 4 with (fail)
 go_cut [11] (fun s wx=>s=.bool true∧Below w.heap.size w wx)
 case first=>
  go_region_with (go_at_call 288;refine(wj1 A (n - 4) c (l.take (n - 4)) _ (by omega) hm (by omega) hcut.drew).mono ?_;rintro e w1 ⟨A1,c1,rfl,ho1,_,_,hb1⟩;rw[Nat.sub_add_cancel h4]at ho1;have hcv1:=ty1 (Row.own ho1) c1;have hcv2:=ty1 (hr.drew.below hb1) c)
  all_goals (go_wp2_with fail;go_meet;exact⟨rfl,b0_.drew.trans hb1⟩)
 case rest=>
  obtain⟨rfl,hb⟩:=hcut;go_wp2;go_ret2;exact⟨rfl,hb⟩
theorem ry2 (A:Option Addr) (n c:Nat) (l:List UInt8) (w:World) (hn:n≤c) (hm:c≤maxLen) (h4:4≤n) (hbig:n≤1073741824) (hr:Row w.heap.size w A n 1 (bts l)) (hne:(Crc.ny (l.take (n - 4))==l)=true):
  Calls Tryz.prog 228 #[.slice A n c] w fun e w'=>∃A' c',e=.returned (.tuple #[.slice A' (n - 4) c',.int .i64 0])∧w'.ownsRow w.heap.size 5 1 (.slice A' (n - 4) c') (n - 4) (bts (l.take (n - 4)))∧n - 4≤c'∧c'≤maxLen∧Below w.heap.size w w':=by
 obtain⟨i0,hi0,hz0,hz1,hz2⟩:=info_parts eq1;have hm':c≤9223372036854775807:=hm;have hpre:Row w.heap.size w A (n - 4) 1 (bts (l.take (n - 4))):=by
  have:=hr.pre (m:=n - 4) (by omega)
  rwa [aW_,←gz1]at this
 have hcv:=ty1 hr.drew c;have hne':(!(Crc.ny (l.take (n - 4))==l))=false:=by rw[hne];rfl
 go_enter Tryz.func228,Tryz.ntmps228;go_upto_region 4 with (fail)
 go_cut [11] (fun s wx=>s=.bool false∧Below w.heap.size w wx)
 case first=>
  go_region_with (go_at_call 288;refine(wj1 A (n - 4) c (l.take (n - 4)) _ (by omega) hm (by omega) hpre.drew).mono ?_;rintro e w1 ⟨A1,c1,rfl,ho1,_,_,hb1⟩;rw[Nat.sub_add_cancel h4]at ho1;have hcv1:=ty1 (Row.own ho1) c1;have hcv2:=ty1 (hr.drew.below hb1) c)
  all_goals (go_wp2_with fail;go_meet;exact⟨rfl,b0_.drew.trans hb1⟩)
 case rest=>
  obtain⟨rfl,hb⟩:=hcut;clear hne hne' hcv;go_wp2_with (at_builtin;refine iy ?_);refine gz (ry rfl (.const (.slice none 0 0)) (.tmp 22) _ rfl w.heap.size 5 i0 _ 1 1 Tryz.underlying56 hi0 hz0 hz1 hz2 rfl (by omega) w hb hb.size rfl w.heap.size A (n - 4) c (bts (l.take (n - 4))) rfl (hpre.below hb) (xy _) (by unfold maxLen;omega) (by omega) ?_);intro A2 c2 w2 hown2 hb2 _ hc2 hm2;go_wp2;go_ret2;exact⟨A2,c2,rfl,hown2,hc2,hm2,hb2⟩
end
section
open Go Go.RowKit
def BoxO (w:World) (e:TypeId) (g:Nat) (xs:List Value):Prop:=w.heap[g]?=some (.cells xs.toArray e (0,0))
variable {w w':World} {e:TypeId} {g:Nat} {xs:List Value} {F:List Nat}
theorem BoxO.cell (h:BoxO w e g xs) (j:Nat):w.cell? ⟨g,j,none⟩=xs[j]?:=by rw[cell_of_row _ _ _ _ _ _ h];simp
theorem BoxO.c0 {w:World} {e:TypeId} {q:Nat} {a:Value} {l:List Value} (h:BoxO w e q (a::l)):w.cell? ⟨q,0,none⟩=some a:=h.cell 0
theorem BoxO.c1 {w:World} {e:TypeId} {q:Nat} {a b:Value} {l:List Value} (h:BoxO w e q (a::b::l)):w.cell? ⟨q,1,none⟩=some b:=h.cell 1
theorem BoxO.c2 {w:World} {e:TypeId} {q:Nat} {a b c:Value} {l:List Value} (h:BoxO w e q (a::b::c::l)):w.cell? ⟨q,2,none⟩=some c:=h.cell 2
theorem BoxO.c3 {w:World} {e:TypeId} {q:Nat} {a b c d:Value} {l:List Value} (h:BoxO w e q (a::b::c::d::l)):w.cell? ⟨q,3,none⟩=some d:=h.cell 3
theorem BoxO.c4 {w:World} {e:TypeId} {q:Nat} {a b c d f:Value} {l:List Value} (h:BoxO w e q (a::b::c::d::f::l)):w.cell? ⟨q,4,none⟩=some f:=h.cell 4
theorem BoxO.c5 {w:World} {e:TypeId} {q:Nat} {a b c d f i:Value} {l:List Value} (h:BoxO w e q (a::b::c::d::f::i::l)):w.cell? ⟨q,5,none⟩=some i:=h.cell 5
theorem BoxO.c6 {w:World} {e:TypeId} {q:Nat} {a b c d f i j:Value} {l:List Value} (h:BoxO w e q (a::b::c::d::f::i::j::l)):w.cell? ⟨q,6,none⟩=some j:=h.cell 6
theorem BoxO.c7 {w:World} {e:TypeId} {q:Nat} {a b c d f i j k:Value} {l:List Value} (h:BoxO w e q (a::b::c::d::f::i::j::k::l)):w.cell? ⟨q,7,none⟩=some k:=h.cell 7
theorem BoxO.free (h:BoxO w e g xs) (j:Nat):w.frozen? ⟨g,j,none⟩=false:=frozen_of_row _ _ _ _ _ h
theorem BoxO.lt (h:BoxO w e g xs):g < w.heap.size:=(w_.1 h).1
theorem BoxO.chg (h:BoxO w e g xs) (c:Chg F w w') (hg:g∉F):BoxO w' e g xs:=(c.block g h.lt hg).trans h
theorem BoxO.below (h:BoxO w e g xs) (hb:Below w.heap.size w w'):BoxO w' e g xs:=(hb.block g h.lt).trans h
theorem BoxO.alloc (h:BoxO w e g xs) (o:Obj):BoxO (w.alloc o) e g xs:=h.below (b_ _ o)
theorem BoxO.new (w:World) (cs:Array Value) (e:TypeId):BoxO (w.alloc (.cells cs e)) e w.heap.size cs.toList:=heap_alloc_new _ _
theorem BoxO.store (h:BoxO w e g xs) (j:Nat) (u:Value):BoxO (w.setCell ⟨g,j,none⟩ u) e g (xs.set j u):=by
 have h1:w.ownsRow 0 e xs.length (.slice (some ⟨g,0,none⟩) 1 1) 1 xs:=⟨by simp,.inr ⟨g,1,xs.toArray,rfl,t_ _,h,x_ _,by decide,by simp,by simp⟩⟩;obtain⟨h2,_⟩:=h1.stored j u
 rcases h2.2 with ⟨hv,_⟩|⟨g2,cap2,cur,hv,_,hg,_,_,hs,ht⟩
 ·cases hv
 ·injection hv with hv _ hc
  injection hv with hv;injection hv with hv;subst hv;subst hc;unfold BoxO;have e1:cur.toList=xs.set j u:=by
   rw[←ht,i_ (by simp at hs ⊢;omega)]
  rw[hg,←e1]
theorem BoxO.drewN (h:BoxO w e g xs) (n:Nat):BoxO (w.drewN n) e g xs:=h
theorem BoxO.drew (h:BoxO w e g xs):BoxO w.drew e g xs:=h
theorem uw (w:World) (p:Addr) (v:Value):Chg [p.block] w (w.setCell p v):=(Chg.refl [p.block] w).setCell v (.inl (by simp))
end
section
open Go Go.RowKit
theorem zy3 {α:Type} (f:α→List Value) (sz:Nat) (hf:∀x,(f x).length=sz) (l:List α):(l.flatMap f).length=l.length *sz:=by
 induction l with
 |nil=>simp
 |cons h t ih=>rw[M_,e_,ih,hf,r_,bl_];omega
theorem jy1 {α:Type} (f:α→List Value) (sz:Nat) (hf:∀x,(f x).length=sz):∀(l:List α) (k j:Nat) (hk:k < l.length),j < sz→(l.flatMap f)[k *sz+j]?=(f l[k])[j]?
 |h::t,0,j,_,hj=>by
  rw[M_,J_ (by rw[hf];omega)];simp
 |h::t,k+1,j,hk,hj=>by
  have e:(k+1)*sz+j - (f h).length=k *sz+j:=by rw[hf,bl_];omega
  rw[M_,Y_ (by rw[hf,bl_];omega),e,jy1 f sz hf t k j (by simpa using hk) hj];simp
theorem iq1 {B n sz:Nat} {w:World} {A:Option Addr} {vs:List Value} (h:Row B w A n sz vs) {i:Nat} {v:Value} (hv:vs[i]?=some v):∃a,A=some a∧a.block < B∧w.cell? (a.add i)=some v:=by
 obtain⟨hi,e⟩:=G_.1 hv;obtain⟨a,ea,hb,hc⟩:=h.cell i hi;exact⟨a,ea,hb,by rw[hc,e]⟩
end
section
namespace Pn
end Pn
namespace Rd
end Rd
theorem Vw.ew5 {v v':Vw} {e:Ed} (h:v.app e=some v'):v'.ok=true:=by
 unfold Vw.app at h
 cases hd:dropAll e.drop v.files with
 |none=>rw[hd]at h;cases h
 |some fs=>
  rw[hd]at h;simp only at h;generalize ({ log:=if e.log=0 then v.log else e.log,files:=fs++e.add,floor:=orElse e.floor v.floor,cert:=orElse e.cert v.cert,at_:=orElse e.at_ v.at_,lease:=orElse e.lease v.lease }:Vw)=x at h
  by_cases hx:x.ok=true
  ·rw[if_pos hx]at h
   injection h with h
   rwa [←h]
  ·rw[if_neg hx]at h
   cases h
end
section
open Go Go.RowKit
namespace Once
theorem disable (w:World):(callFunc 363 #[]).run Tryz.prog w=.ok (.value (.tuple #[])) w:=run_call_mark0 Tryz.func363 (by kernel_rfl) (by kernel_rfl) (by kernel_rfl) .disable (by kernel_rfl) w
theorem enable (w:World):(callFunc 365 #[]).run Tryz.prog w=.ok (.value (.tuple #[])) w:=run_call_mark0 Tryz.func365 (by kernel_rfl) (by kernel_rfl) (by kernel_rfl) .enable (by kernel_rfl) w
theorem acquire (a:Addr) (w:World):(callFunc 366 #[.pointer (some a)]).run Tryz.prog w=.ok (.value (.tuple #[])) w:=run_call_marked Tryz.func366 (by kernel_rfl) (by kernel_rfl) (by kernel_rfl) .acquire (by kernel_rfl) a w
theorem releaseMerge (a:Addr) (w:World):(callFunc 368 #[.pointer (some a)]).run Tryz.prog w=.ok (.value (.tuple #[])) w:=run_call_marked Tryz.func368 (by kernel_rfl) (by kernel_rfl) (by kernel_rfl) .releaseMerge (by kernel_rfl) a w
theorem store_deferred (a:Addr) (x:Value) (u:FrameMode) (w:World) (hc:w.cell? a=some x) (hz:w.frozen? a=false):
  CallsD Tryz.prog 318 #[.pointer (some a),.bool true] u w fun e u' w'=>u'=u∧(e=.returned (.tuple #[])∧w'=w.drew.setCell a (.int .u32 1)):=by
 have hc':w.drew.cell? a=some x:=by go_simp
 have hz':w.drew.frozen? a=false:=by go_simp
 have hst:=run_call_store (P:=Tryz.prog) Tryz.func346 (by kernel_rfl) (by kernel_rfl) (by kernel_rfl) (by kernel_rfl) (k:=.u32) (y:=1) hc' hz';go_enter_d Tryz.func318,Tryz.ntmps318;go_wp2
 go_region_calls
 all_goals (go_end0;exact⟨rfl,rfl⟩)
theorem unlock_deferred (a:Addr) (u:FrameMode) (w:World) (hc:w.cell? a=some (.int .i32 1)) (hz:w.frozen? a=false):
  CallsD Tryz.prog 317 #[.pointer (some a)] u w fun e u' w'=>u'=u∧(e=.returned (.tuple #[])∧w'=w.setCell a (.int .i32 0)):=by
 have hd:=disable;have he:=enable;have hr:=releaseMerge;have hadd:=run_call_add (P:=Tryz.prog) Tryz.func369 (by kernel_rfl) (by kernel_rfl) (by kernel_rfl) .i32 (by kernel_rfl) (y:=-1) (s:=0) hc hz (by simp[go_sem];rfl)
 first|have hcv:=run_convert_to_unsafe (P:=Tryz.prog) (src:=418) (dst:=295) Tryz.underlying418 Tryz.underlying295 (by kernel_rfl) hc|have hcv:=run_convert_to_unsafe (P:=Tryz.prog) (src:=490) (dst:=295) Tryz.underlying490 Tryz.underlying295 (by kernel_rfl) hc
 go_enter_d Tryz.func317,Tryz.ntmps317;go_wp2
 go_end0
 go_wp2
 go_end0
 exact⟨rfl,rfl⟩
theorem lock_free (a:Addr) (w:World) (hc:w.cell? a=some (.int .i32 0)) (hz:w.frozen? a=false):
  Calls Tryz.prog 316 #[.pointer (some a)] w fun e w'=>e=.returned (.tuple #[])∧w'=w.setCell a (.int .i32 1):=by
 have hd:=disable;have he:=enable;have ha:=acquire;have hcas:=run_call_cas_hit (P:=Tryz.prog) Tryz.func364 (by kernel_rfl) (by kernel_rfl) (by kernel_rfl) .i32 (by kernel_rfl) (y:=1) hc hz;have hc':(w.setCell a (.int .i32 1)).cell? a=some (.int .i32 1):=aF_ w a _ hc
 first|have hcv:=run_convert_to_unsafe (P:=Tryz.prog) (src:=418) (dst:=295) Tryz.underlying418 Tryz.underlying295 (by kernel_rfl) hc'|have hcv:=run_convert_to_unsafe (P:=Tryz.prog) (src:=490) (dst:=295) Tryz.underlying490 Tryz.underlying295 (by kernel_rfl) hc'
 go_enter Tryz.func316,Tryz.ntmps316;go_wp2
 first|go_end0|(simp only[Exit.inBlock,Exit.then];refine bodyPost_ret (results_none rfl _ _ _) rfl ?_)|refine bodyPost_ret (results_none rfl _ _ _) rfl ?_
 go_wp2
 go_end0
 exact⟨rfl,rfl⟩
end Once
end
section
open Go Go.RowKit
namespace Once
theorem slow_any (b:Nat) (pl:Addr) (hpb:¬b=pl.block) (x3:Value) (w:World) (hp:w.cell? pl=some (.pointer (some ⟨b,0,none⟩)))
  (h0:w.cell? ⟨b,9,none⟩=some (.int .u32 0)) (h1:w.cell? ⟨b,10,none⟩=some (.int .i32 0)) (h3:w.cell? ⟨b,12,none⟩=some x3)
  (f0:w.frozen? ⟨b,9,none⟩=false) (f1:w.frozen? ⟨b,10,none⟩=false) (f3:w.frozen? ⟨b,12,none⟩=false):
  Calls Tryz.prog 267 #[.pointer (some ⟨b,9,none⟩),.func (.func 308) #[] #[.pointer (some pl)]] w fun e w'=>e=.returned (.tuple #[])∧
   w'=(((w.setCell ⟨b,10,none⟩ (.int .i32 1)).setCell ⟨b,12,none⟩ (.bool true)).drew.setCell ⟨b,9,none⟩ (.int .u32 1)).setCell ⟨b,10,none⟩ (.int .i32 0):=by
 have hl:=run_call_load (P:=Tryz.prog) Tryz.func315 (by kernel_rfl) (by kernel_rfl) (by kernel_rfl) .u32 (by kernel_rfl) (w:=w.setCell ⟨b,10,none⟩ (.int .i32 1)) (a:=⟨b,9,none⟩) (x:=0) ((P_ _ ⟨b,10,none⟩ ⟨b,9,none⟩ _ (by simp)).trans h0);have hp1:(w.setCell ⟨b,10,none⟩ (.int .i32 1)).cell? pl=some (.pointer (some ⟨b,0,none⟩)):=(P_ _ ⟨b,10,none⟩ pl _ (fun h=>hpb (by rw[←h]))).trans hp;have h31:(w.setCell ⟨b,10,none⟩ (.int .i32 1)).cell? ⟨b,12,none⟩=some x3:=(P_ _ ⟨b,10,none⟩ ⟨b,12,none⟩ _ (by simp)).trans h3;have hnot:∀(x:Bool) (w:World),(Op.unary .not (.bool x)).run Tryz.prog w=.ok (.bool (!x)) w:=fun _ _=>rfl;go_enter_defers Tryz.func267,Tryz.ntmps267;go_wp2_with (go_at_call 316;refine(lock_free ⟨b,10,none⟩ _ (by go_simp) (by go_simp)).mono ?_;rintro e w' ⟨rfl,rfl⟩);go_wp2
 go_end0
 go_wp2;refine leaves_cons (f:=318) (args:=#[.pointer (some ⟨b,9,none⟩),.bool true]) (by simp) (by simp[go_sem]) ?_;refine(store_deferred ⟨b,9,none⟩ (.int .u32 0) .returning _ ?_ (by simp[f0])).mono ?_
 ·exact(P_ _ ⟨b,12,none⟩ ⟨b,9,none⟩ _ (by simp)).trans ((P_ _ ⟨b,10,none⟩ ⟨b,9,none⟩ _ (by simp)).trans h0)
 rintro e u' w'' ⟨rfl,rfl,rfl⟩;refine leaves_cons (f:=317) (args:=#[.pointer (some ⟨b,10,none⟩)]) (by simp[settle]) (by simp[go_sem]) ?_;refine(unlock_deferred ⟨b,10,none⟩ _ _ ?_ (by simp[f1])).mono ?_
 ·refine(P_ _ ⟨b,9,none⟩ ⟨b,10,none⟩ _ (by simp)).trans ?_
  rw[World.cell?_drew];exact(P_ _ ⟨b,12,none⟩ ⟨b,10,none⟩ _ (by simp)).trans (aF_ w _ _ h1)
 rintro e u' w'' ⟨rfl,rfl,rfl⟩;simp[Leaves,settle,results,Tryz.results267]
theorem do_first (b:Nat) (pl:Addr) (hpb:¬b=pl.block) (x3:Value) (w:World) (hp:w.cell? pl=some (.pointer (some ⟨b,0,none⟩)))
  (h0:w.cell? ⟨b,9,none⟩=some (.int .u32 0)) (h1:w.cell? ⟨b,10,none⟩=some (.int .i32 0)) (h3:w.cell? ⟨b,12,none⟩=some x3)
  (f0:w.frozen? ⟨b,9,none⟩=false) (f1:w.frozen? ⟨b,10,none⟩=false) (f3:w.frozen? ⟨b,12,none⟩=false):
  Calls Tryz.prog 214 #[.pointer (some ⟨b,9,none⟩),.func (.func 308) #[] #[.pointer (some pl)]] w fun e w'=>e=.returned (.tuple #[])∧w'=((((w.setCell ⟨b,10,none⟩ (.int .i32 1)).setCell ⟨b,12,none⟩ (.bool true)).drew.setCell ⟨b,9,none⟩ (.int .u32 1)).setCell ⟨b,10,none⟩ (.int .i32 0)):=by
 have hl:=run_call_load (P:=Tryz.prog) Tryz.func315 (by kernel_rfl) (by kernel_rfl) (by kernel_rfl) .u32 (by kernel_rfl) h0;have hnot:∀(x:Bool) (w:World),(Op.unary .not (.bool x)).run Tryz.prog w=.ok (.bool (!x)) w:=fun _ _=>rfl;go_enter Tryz.func214,Tryz.ntmps214;go_wp2_with (first|(go_at_call 267;refine(slow_any b pl hpb x3 _ hp h0 h1 h3 f0 f1 f3).mono ?_;rintro e w' ⟨rfl,rfl⟩)|(go_at_call 266;go_in))
 go_end0
 exact⟨rfl,rfl⟩
theorem do_done (a:Addr) (d:Int) (hd:¬d=0) (fv:Value) (w:World) (h0:w.cell? a=some (.int .u32 d)):
  Calls Tryz.prog 214 #[.pointer (some a),fv] w fun e w'=>e=.returned (.tuple #[])∧w'=w:=by
 have hl:=run_call_load (P:=Tryz.prog) Tryz.func315 (by kernel_rfl) (by kernel_rfl) (by kernel_rfl) .u32 (by kernel_rfl) h0;have hnot:∀(x:Bool) (w:World),(Op.unary .not (.bool x)).run Tryz.prog w=.ok (.bool (!x)) w:=fun _ _=>rfl;have hd':(d !=0)=true:=by simp[hd]
 go_enter Tryz.func214,Tryz.ntmps214;go_wp2
 go_end0
 exact⟨rfl,rfl⟩
end Once
end
section
open Go Go.RowKit
namespace Sonce
open Once
theorem slow_any (b:Nat) (pl:Addr) (hpb:¬b=pl.block) (x3:Value) (w:World) (hp:w.cell? pl=some (.pointer (some ⟨b,0,none⟩)))
  (h0:w.cell? ⟨b,7,none⟩=some (.int .u32 0)) (h1:w.cell? ⟨b,8,none⟩=some (.int .i32 0)) (h3:w.cell? ⟨b,10,none⟩=some x3)
  (f0:w.frozen? ⟨b,7,none⟩=false) (f1:w.frozen? ⟨b,8,none⟩=false) (f3:w.frozen? ⟨b,10,none⟩=false):
  Calls Tryz.prog 267 #[.pointer (some ⟨b,7,none⟩),.func (.func 215) #[] #[.pointer (some pl)]] w fun e w'=>e=.returned (.tuple #[])∧
   w'=(((w.setCell ⟨b,8,none⟩ (.int .i32 1)).setCell ⟨b,10,none⟩ (.bool true)).drew.setCell ⟨b,7,none⟩ (.int .u32 1)).setCell ⟨b,8,none⟩ (.int .i32 0):=by
 have hl:=run_call_load (P:=Tryz.prog) Tryz.func315 (by kernel_rfl) (by kernel_rfl) (by kernel_rfl) .u32 (by kernel_rfl) (w:=w.setCell ⟨b,8,none⟩ (.int .i32 1)) (a:=⟨b,7,none⟩) (x:=0) ((P_ _ ⟨b,8,none⟩ ⟨b,7,none⟩ _ (by simp)).trans h0);have hp1:(w.setCell ⟨b,8,none⟩ (.int .i32 1)).cell? pl=some (.pointer (some ⟨b,0,none⟩)):=(P_ _ ⟨b,8,none⟩ pl _ (fun h=>hpb (by rw[←h]))).trans hp;have h31:(w.setCell ⟨b,8,none⟩ (.int .i32 1)).cell? ⟨b,10,none⟩=some x3:=(P_ _ ⟨b,8,none⟩ ⟨b,10,none⟩ _ (by simp)).trans h3;have hnot:∀(x:Bool) (w:World),(Op.unary .not (.bool x)).run Tryz.prog w=.ok (.bool (!x)) w:=fun _ _=>rfl;go_enter_defers Tryz.func267,Tryz.ntmps267;go_wp2_with (go_at_call 316;refine(lock_free ⟨b,8,none⟩ _ (by go_simp) (by go_simp)).mono ?_;rintro e w' ⟨rfl,rfl⟩);go_wp2
 go_end0
 go_wp2;refine leaves_cons (f:=318) (args:=#[.pointer (some ⟨b,7,none⟩),.bool true]) (by simp) (by simp[go_sem]) ?_;refine(store_deferred ⟨b,7,none⟩ (.int .u32 0) .returning _ ?_ (by simp[f0])).mono ?_
 ·exact(P_ _ ⟨b,10,none⟩ ⟨b,7,none⟩ _ (by simp)).trans ((P_ _ ⟨b,8,none⟩ ⟨b,7,none⟩ _ (by simp)).trans h0)
 rintro e u' w'' ⟨rfl,rfl,rfl⟩;refine leaves_cons (f:=317) (args:=#[.pointer (some ⟨b,8,none⟩)]) (by simp[settle]) (by simp[go_sem]) ?_;refine(unlock_deferred ⟨b,8,none⟩ _ _ ?_ (by simp[f1])).mono ?_
 ·refine(P_ _ ⟨b,7,none⟩ ⟨b,8,none⟩ _ (by simp)).trans ?_
  rw[World.cell?_drew];exact(P_ _ ⟨b,10,none⟩ ⟨b,8,none⟩ _ (by simp)).trans (aF_ w _ _ h1)
 rintro e u' w'' ⟨rfl,rfl,rfl⟩;simp[Leaves,settle,results,Tryz.results267]
theorem do_first (b:Nat) (pl:Addr) (hpb:¬b=pl.block) (x3:Value) (w:World) (hp:w.cell? pl=some (.pointer (some ⟨b,0,none⟩)))
  (h0:w.cell? ⟨b,7,none⟩=some (.int .u32 0)) (h1:w.cell? ⟨b,8,none⟩=some (.int .i32 0)) (h3:w.cell? ⟨b,10,none⟩=some x3)
  (f0:w.frozen? ⟨b,7,none⟩=false) (f1:w.frozen? ⟨b,8,none⟩=false) (f3:w.frozen? ⟨b,10,none⟩=false):
  Calls Tryz.prog 214 #[.pointer (some ⟨b,7,none⟩),.func (.func 215) #[] #[.pointer (some pl)]] w fun e w'=>e=.returned (.tuple #[])∧w'=((((w.setCell ⟨b,8,none⟩ (.int .i32 1)).setCell ⟨b,10,none⟩ (.bool true)).drew.setCell ⟨b,7,none⟩ (.int .u32 1)).setCell ⟨b,8,none⟩ (.int .i32 0)):=by
 have hl:=run_call_load (P:=Tryz.prog) Tryz.func315 (by kernel_rfl) (by kernel_rfl) (by kernel_rfl) .u32 (by kernel_rfl) h0;have hnot:∀(x:Bool) (w:World),(Op.unary .not (.bool x)).run Tryz.prog w=.ok (.bool (!x)) w:=fun _ _=>rfl;go_enter Tryz.func214,Tryz.ntmps214;go_wp2_with (first|(go_at_call 267;refine(slow_any b pl hpb x3 _ hp h0 h1 h3 f0 f1 f3).mono ?_;rintro e w' ⟨rfl,rfl⟩)|(go_at_call 266;go_in))
 go_end0
 exact⟨rfl,rfl⟩
end Sonce
end
section
open Go Go.RowKit
theorem gw1 {w:World} {base size n c:Nat} {e:TypeId} {a:Addr} {xs:List Value} (h:w.ownsRow base e size (.slice (some a) n c) n xs):
  ∃g cur,a=⟨g,0,none⟩∧base≤g∧BoxO w e g cur∧cur.length=c *size∧n≤c∧c≤maxLen∧cur.take (n *size)=xs:=by
 rcases h.2 with ⟨h0,_⟩|⟨g,cap,cur,h1,hb,hg,hn,hc,hs,ht⟩
 ·cases h0
 ·injection h1 with h2 h3 h4
  injection h2 with h2;subst h2 h4;exact⟨g,cur.toList,rfl,hb,by simpa [BoxO] using hg,by simpa using hs,hn,hc,ht⟩
theorem uk3 {w:World} {base size n c g:Nat} {e:TypeId} {cur:List Value} (hb:base≤g) (h:BoxO w e g cur) (hl:cur.length=c *size) (hn:n≤c) (hc:c≤maxLen):w.ownsRow base e size (.slice (some ⟨g,0,none⟩) n c) n (cur.take (n *size)):=
 ⟨by rw[u_,hl];exact aH_ (aX_ _ hn),.inr ⟨g,c,cur.toArray,rfl,hb,h,hn,hc,by simpa using hl,by simp⟩⟩
theorem qj4 {w:World} {base size n c:Nat} {e:TypeId} {xs:List Value} (h:w.ownsRow base e size (.slice none n c) n xs):n=0∧c=0:=by
 rcases h.2 with ⟨h0,_⟩|⟨g,cap,cur,h1,_⟩
 ·injection h0 with _ h1 h2
  exact⟨h1,h2⟩
 ·cases h1
end
end Go.Proofs.YthjdpplgfdihoaaGreatDoor
