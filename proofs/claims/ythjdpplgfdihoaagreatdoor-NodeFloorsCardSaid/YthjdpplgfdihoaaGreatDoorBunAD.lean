/- Texts PlainFrame, PlainEdit, FrameA, Open, FrameB, Split, Reader, EditA, EditB, EditC, EditD, EditE, EditF, PlainMan, PlainManG in one. No conditions. -/
import Derived.Test.YthjdpplgfdihoaaGreatDoorBunAA
import Derived.Test.YthjdpplgfdihoaaGreatDoorBunAC
import Derived.Deep.RegionWith
import Derived.Deep.DeepCutAuto
import Derived.Lib.MinMax
import Derived.StillTailTactics
import Derived.Deep.CutBlock
import Derived.Test.YthjdpplgfdihoaaGreatDoorBunAB

set_option linter.unusedSimpArgs false
set_option linter.unusedVariables false
set_option maxRecDepth 100000
set_option maxHeartbeats 16000000
namespace Go.Proofs.YthjdpplgfdihoaaGreatDoor
section
namespace Fr
def head (k n:Nat):List UInt8:=[UInt8.ofNat k,UInt8.ofNat (n / 65536),UInt8.ofNat (n / 256),UInt8.ofNat n]
def put (k:Nat) (b:List UInt8):List UInt8:=Crc.jw (head k b.length)++Crc.jw b
def u (l:List UInt8) (i:Nat):Nat:=(l.getD i 0).toNat
def size (l:List UInt8):Nat:=u l 1 *65536+u l 2 *256+u l 3
def take (l:List UInt8) (p:Nat):Nat×List UInt8×Nat×Nat:=
 if l.length - p < 8 then (0,[],0,4)
 else if Crc.jw ((l.drop p).take 4)≠(l.drop p).take 8 then (0,[],0,5)
 else if u (l.drop p) 0 < 1∨100 < u (l.drop p) 0∨60000 < size (l.drop p) then (0,[],0,3)
 else if l.length - p - 8 < size (l.drop p)+4 then (0,[],0,4)
 else if Crc.jw ((l.drop (p+8)).take (size (l.drop p)))≠(l.drop (p+8)).take (size (l.drop p)+4) then (0,[],0,5)
 else (u (l.drop p) 0,(l.drop (p+8)).take (size (l.drop p)),p+8+size (l.drop p)+4,0)
def splitF:Nat→List UInt8→Nat→List Nat→List (List UInt8)→List Nat×List (List UInt8)×Nat×Nat
 |0,_,e,ks,bs=>(ks,bs,e,0)
 |f+1,l,e,ks,bs=>if e < l.length then
   (if (take l e).2.2.2=0 then splitF f l (take l e).2.2.1 (ks++[(take l e).1]) (bs++[(take l e).2.1]) else (ks,bs,e,(take l e).2.2.2))
  else (ks,bs,e,0)
def split (l:List UInt8):List Nat×List (List UInt8)×Nat×Nat:=splitF (l.length+1) l 0 [] []
theorem aq3 (x:BitVec 32):(Crc.four x).length=4:=rfl
theorem qv1 (l:List UInt8):(Crc.jw l).length=l.length+4:=by simp[Crc.jw,aq3]
theorem qw (k:Nat) (b:List UInt8):(put k b).length=b.length+12:=by simp[put,qv1,head];omega
theorem u8n (n:Nat) (h:n < 256):(UInt8.ofNat n).toNat=n:=by
 rw[UInt8.toNat_ofNat'];omega
theorem zk1 {l:List UInt8} {p:Nat} (h:(take l p).2.2.2=0):p+12≤(take l p).2.2.1∧(take l p).2.2.1≤l.length:=by
 unfold take at h ⊢;split at h
 ·simp at h
 ·split at h
  ·simp at h
  ·split at h
   ·simp at h
   ·split at h
    ·simp at h
    ·split at h
     ·simp at h
     ·rename_i h1 h2 h3 h4 h5
      rw[if_neg h1,if_neg h2,if_neg h3,if_neg h4,if_neg h5];simp only;omega
theorem ij2 (k n:Nat) (r:List UInt8) (hk:k < 256) (hn:n≤60000):u (head k n++r) 0=k∧size (head k n++r)=n:=by
 constructor
 ·simp[u,head,u8n k hk]
 ·simp only[size,u,head,List.cons_append,List.nil_append,List.getD_cons_zero,List.getD_cons_succ,UInt8.toNat_ofNat']
  omega
theorem ij1 (l r:List UInt8):(Crc.jw l++r).take l.length=l:=by
 simp[Crc.jw,List.append_assoc]
theorem kq1 (l r:List UInt8):(Crc.jw l++r).take (l.length+4)=Crc.jw l:=by
 rw[←qv1,List.take_left]
theorem rw3 (k:Nat) (b r:List UInt8):put k b++r=head k b.length++(Crc.four (Crc.sum (head k b.length))++(Crc.jw b++r)):=by
 simp[put,Crc.jw]
theorem eq4 (k:Nat) (b r:List UInt8):(put k b++r).drop 8=Crc.jw b++r:=by
 have e:put k b++r=Crc.jw (head k b.length)++(Crc.jw b++r):=by simp[put]
 have h8:(Crc.jw (head k b.length)).length=8:=by rw[qv1];rfl
 rw[e,←h8,List.drop_left]
theorem oq (a:List UInt8) (k:Nat) (b r:List UInt8) (h1:1≤k) (h2:k≤100) (hb:b.length≤60000):take (a++(put k b++r)) a.length=(k,b,a.length+(put k b).length,0):=by
 have hd:(a++(put k b++r)).drop a.length=put k b++r:=List.drop_left;have hd8:(a++(put k b++r)).drop (a.length+8)=Crc.jw b++r:=by rw[←List.drop_drop,hd,eq4]
 have hl:(a++(put k b++r)).length - a.length=b.length+12+r.length:=by simp[qw]
 obtain⟨e0,e1⟩:=ij2 k b.length (Crc.four (Crc.sum (head k b.length))++(Crc.jw b++r)) (by omega) hb;rw[←rw3]at e0 e1;have e4:(put k b++r).take 4=head k b.length:=by
  have:=ij1 (head k b.length) (Crc.jw b++r);rw[show put k b++r=Crc.jw (head k b.length)++(Crc.jw b++r) from by simp[put]];exact this
 have e8:(put k b++r).take 8=Crc.jw (head k b.length):=by
  have:=kq1 (head k b.length) (Crc.jw b++r);rw[show put k b++r=Crc.jw (head k b.length)++(Crc.jw b++r) from by simp[put]];exact this
 unfold take;rw[hl,hd,hd8,e0,e1,e4,e8,ij1,kq1,if_neg (by omega),if_neg (fun h=>h rfl),if_neg (by omega),if_neg (by omega),if_neg (fun h=>h rfl),qw];rw[show a.length+8+b.length+4=a.length+(b.length+12) from by omega]
theorem ey4 (a:List UInt8) (k:Nat) (b:List UInt8) (n:Nat) (h1:1≤k) (h2:k≤100) (hb:b.length≤60000) (hn:n < (put k b).length):take (a++(put k b).take n) a.length=(0,[],0,4):=by
 have hd:(a++(put k b).take n).drop a.length=(put k b).take n:=List.drop_left;have hl:(a++(put k b).take n).length - a.length=n:=by
  rw[List.length_append,List.length_take];omega
 unfold take;rw[hl,hd];split
 ·rfl
 ·rename_i h8
  have e4:((put k b).take n).take 4=head k b.length:=by
   rw[List.take_take,show min 4 n=4 from by omega];have:=ij1 (head k b.length) (Crc.jw b);exact this
  have e8:((put k b).take n).take 8=Crc.jw (head k b.length):=by
   rw[List.take_take,show min 8 n=8 from by omega];have:=kq1 (head k b.length) (Crc.jw b);exact this
  obtain⟨e0,e1⟩:=ij2 k b.length (((put k b).take n).drop 4) (by omega) hb;have e5:head k b.length++((put k b).take n).drop 4=(put k b).take n:=by rw[←e4];exact List.take_append_drop 4 _
  rw[e5]at e0 e1;rw[e0,e1,e4,e8,if_neg (fun h=>h rfl),if_neg (by omega),if_pos (by rw[qw]at hn;omega)]
def all (k:Nat) (bs:List (List UInt8)):List UInt8:=bs.flatMap (put k)
theorem qk1 (k:Nat) (h1:1≤k) (h2:k≤100) (tail:List UInt8):∀(bs:List (List UInt8)) (f:Nat) (a:List UInt8) (ks:List Nat) (os:List (List UInt8)),(∀b∈bs,b.length≤60000)→bs.length≤f→
  splitF f (a++(all k bs++tail)) a.length ks os=splitF (f - bs.length) (a++(all k bs++tail)) (a.length+(all k bs).length) (ks++List.replicate bs.length k) (os++bs)
 |[],f,a,ks,os,_,_=>by simp[all]
 |b::bs,f,a,ks,os,hb,hf=>by
  obtain⟨f,rfl⟩:∃g,f=g+1:=⟨f - 1,by simp at hf;omega⟩;have e:a++(all k (b::bs)++tail)=a++(put k b++(all k bs++tail)):=by simp[all]
  have ht:=oq a k b (all k bs++tail) h1 h2 (hb b (by simp));have hlt:a.length < (a++(put k b++(all k bs++tail))).length:=by simp[qw];omega
  have e2:a++(put k b++(all k bs++tail))=(a++put k b)++(all k bs++tail):=by simp
  rw[e,splitF,if_pos hlt,ht];simp only[if_true];rw[e2,show a.length+(put k b).length=(a++put k b).length from by simp,qk1 k h1 h2 tail bs f (a++put k b) _ _ (fun x hx=>hb x (by simp[hx])) (by simp at hf;omega)];have e3:(a++put k b).length+(all k bs).length=a.length+(all k (b::bs)).length:=by simp[all];omega
  rw[e3];simp[List.replicate_succ]
theorem oz2 (k:Nat) (h1:1≤k) (h2:k≤100) (bs:List (List UInt8)) (hb:∀b∈bs,b.length≤60000):split (all k bs)=(List.replicate bs.length k,bs,(all k bs).length,0):=by
 have hl:bs.length≤(all k bs).length:=by
  induction bs with
  |nil=>simp
  |cons b bs ih=>
   have:=ih (fun x hx=>hb x (by simp[hx]));simp only[all,List.flatMap_cons,List.length_append,List.length_cons,qw]at this ⊢;omega
 have h:=qk1 k h1 h2 [] bs ((all k bs).length+1) [] [] [] hb (by omega);simp only[List.nil_append,List.append_nil,List.length_nil,Nat.zero_add]at h;unfold split;rw[h];obtain⟨g,hg⟩:∃g,(all k bs).length+1 - bs.length=g+1:=⟨(all k bs).length - bs.length,by omega⟩;rw[hg,splitF,if_neg (by omega)]
theorem tx3 (k:Nat) (h1:1≤k) (h2:k≤100) (bs:List (List UInt8)) (hb:∀b∈bs,b.length≤60000) (b:List UInt8) (hbl:b.length≤60000) (n:Nat) (hn0:0 < n) (hn:n < (put k b).length):
  split (all k bs++(put k b).take n)=(List.replicate bs.length k,bs,(all k bs).length,4):=by
 have hl:bs.length≤(all k bs).length:=by
  clear hn hn0
  induction bs with
  |nil=>simp
  |cons b bs ih=>
   have:=ih (fun x hx=>hb x (by simp[hx]));simp only[all,List.flatMap_cons,List.length_append,List.length_cons,qw]at this ⊢;omega
 have h:=qk1 k h1 h2 ((put k b).take n) bs ((all k bs++(put k b).take n).length+1) [] [] [] hb (by simp;omega);simp only[List.nil_append,List.length_nil,Nat.zero_add]at h;unfold split;rw[h];obtain⟨g,hg⟩:∃g,(all k bs++(put k b).take n).length+1 - bs.length=g+1:=⟨(all k bs++(put k b).take n).length - bs.length,by simp;omega⟩;rw[hg,splitF,if_pos (by simp;omega),ey4 (all k bs) k b n h1 h2 hbl hn];simp
end Fr
end
section
structure Vw where
 log:Int
 files:List (Int×Int)
 floor:Nat
 cert:Nat
 at_:Nat
 lease:Nat
structure Ed where
 drop:List Int
 add:List (Int×Int)
 log:Int
 floor:Nat
 cert:Nat
 at_:Nat
 lease:Nat
def isNum (n:Int):Bool:=decide (1≤n) &&decide (n≤1073741824)
def vz (f:Int×Int):Bool:=isNum f.2&&(decide (0≤f.1) &&decide (f.1≤3))
def ty1 (a b c d:Nat):Bool:=decide (a≤281474976710656) &&decide (b≤281474976710656) &&decide (c≤281474976710656) &&decide (d≤281474976710656)
def apart:List (Int×Int)→Bool
 |[]=>true
 |f::r=>r.all (fun g=>!(g.2==f.2)) &&apart r
def Vw.ok (v:Vw):Bool:=isNum v.log&&decide (v.files.length≤40) &&ty1 v.floor v.cert v.at_ v.lease&&v.files.all vz&&apart v.files
def Ed.may (e:Ed):Bool:=decide (e.drop.length≤40) &&decide (e.add.length≤40) &&(decide (0≤e.log) &&decide (e.log≤1073741824)) &&ty1 e.floor e.cert e.at_ e.lease&&e.drop.all isNum&&e.add.all vz
def dropAll:List Int→List (Int×Int)→Option (List (Int×Int))
 |[],fs=>some fs
 |n::r,fs=>if fs.any (fun f=>f.2==n) then dropAll r (fs.eraseP fun f=>f.2==n) else none
def orElse (a b:Nat):Nat:=if a=0 then b else a
def Vw.app (v:Vw) (e:Ed):Option Vw:=match dropAll e.drop v.files with
 |none=>none
 |some fs=>if (Vw.ok { log:=if e.log=0 then v.log else e.log,files:=fs++e.add,floor:=orElse e.floor v.floor,cert:=orElse e.cert v.cert,at_:=orElse e.at_ v.at_,lease:=orElse e.lease v.lease }) then
   some { log:=if e.log=0 then v.log else e.log,files:=fs++e.add,floor:=orElse e.floor v.floor,cert:=orElse e.cert v.cert,at_:=orElse e.at_ v.at_,lease:=orElse e.lease v.lease } else none
def Vw.run (v:Vw):List Ed→Option Vw
 |[]=>some v
 |e::r=>match v.app e with
  |none=>none
  |some w=>w.run r
def Vw.none_:Vw:=⟨0,[],0,0,0,0⟩
def Vw.whole (v:Vw):Ed:=⟨[],v.files,v.log,v.floor,v.cert,v.at_,v.lease⟩
def Ed.bytes (e:Ed):List UInt8:=Pn.list (e.drop.map Int.toNat)++(Pn.put e.add.length++(e.add.flatMap (fun f=>Pn.put f.1.toNat++Pn.put f.2.toNat)++
 (Pn.put e.log.toNat++(Pn.put e.floor++(Pn.put e.cert++(Pn.put e.at_++Pn.put e.lease))))))
def Ed.rec_ (e:Ed):List UInt8:=Fr.put 6 e.bytes
theorem Vw.mj4 (v:Vw) (e:Ed):∀es,v.run (es++[e])=(v.run es).bind fun w=>w.app e:=by
 intro es
 induction es generalizing v with
 |nil=>
  simp only[List.nil_append,Vw.run,Option.bind]
  cases v.app e<;>rfl
 |cons x r ih=>
  simp only[List.cons_append,Vw.run]
  cases v.app x with
  |none=>rfl
  |some w=>exact ih w
theorem lq2 {α:Type} (f:α→List UInt8) (n:Nat):∀l:List α,(∀x∈l,(f x).length≤n)→(l.flatMap f).length≤l.length *n
 |[],_=>by simp
 |x::r,h=>by
  have h1:=h x (by simp);have h2:=lq2 f n r (fun y hy=>h y (by simp[hy]));simp only[List.flatMap_cons,List.length_append,List.length_cons,Nat.add_mul];omega
theorem Ed.cz1 (e:Ed) (h:e.may=true):e.bytes.length≤2000:=by
 simp only[Ed.may,Bool.and_eq_true,decide_eq_true_eq]at h;have h1:=lq2 Pn.put 10 (e.drop.map Int.toNat) (fun x _=>(Pn.jv x).2);have h2:=lq2 (fun f:Int×Int=>Pn.put f.1.toNat++Pn.put f.2.toNat) 20 e.add (fun f _=>by
  have:=(Pn.jv f.1.toNat).2;have:=(Pn.jv f.2.toNat).2;simp only[List.length_append];omega)
 have a1:=(Pn.jv (e.drop.map Int.toNat).length).2;have a2:=(Pn.jv e.add.length).2;have a3:=(Pn.jv e.log.toNat).2;have a4:=(Pn.jv e.floor).2;have a5:=(Pn.jv e.cert).2;have a6:=(Pn.jv e.at_).2;have a7:=(Pn.jv e.lease).2;have e1:(e.drop.map Int.toNat).length=e.drop.length:=by simp
 simp only[Ed.bytes,Pn.list,List.length_append];rw[e1]at h1;omega
end
section
open Go.RowKit Go.Shelf
theorem hj4 (n:Nat) (hn:n≤1073741824) (w:World):
  Calls Tryz.prog 342 #[.slice none 0 0,.int .i64 (n:Int)] w fun e w'=>∃A c,e=.returned (.slice A 0 c)∧w'.ownsRow w.heap.size 5 1 (.slice A 0 c) 0 []∧Below w.heap.size w w':=by
 obtain⟨i0,hi0,hz0,hz1,hz2⟩:=info_parts gx1
 rcases Nat.eq_zero_or_pos n with h0|h0
 ·subst h0
  have h:=Any8.slices_Grow_room Tryz.grow121 none 0 0 0 w (Nat.le_refl _) (by omega) (by omega) (by omega);refine Calls.mono h ?_;rintro e w' ⟨rfl,rfl⟩;exact⟨none,0,rfl,World.ownsRow_nil _ _ _ _,Below.refl _ _⟩
 ·have h:=Any8.slices_Grow_grow Tryz.grow121 i0 (.int .u8 0) hi0 hz0 (by omega) none 0 0 n [] w (Nat.le_refl _) (by omega) (by rw[hz2];omega) (by omega) (by simp) (fun _=>rfl) (fun a h=>by cases h)
  refine Calls.mono h ?_;rintro e w' ⟨rfl,rfl⟩;have hg:=grownCap_ge w (0+n) 0 5;have hg2:=grownCap_le_maxLen w (0+n) 0 5 (by unfold maxLen;omega);refine⟨_,_,rfl,⟨by simp,.inr ⟨w.heap.size,_,_,rfl,Nat.le_refl _,heap_alloc_new w.drew _,Nat.zero_le _,hg2,?_,by simp⟩⟩,((Below.refl w.heap.size w).drew).alloc (Nat.le_refl _) _⟩;change _=grownCap w (0+n) 0 5 *1;have hc:(Value.int IntKind.u8 0).cells.size=1:=rfl;simp only[Array.size_append,Builtin.zeroCells,Array.size_map,Array.size_range,hc];change 0+(0+n - 0)*1+(grownCap w (0+n) 0 5 - (0+n))*1=_;omega
theorem sy2 {ls:List (List UInt8)} {k:Nat} (hl:k < ls.length):(ls.take (k+1)).flatten=(ls.take k).flatten++ls[k]:=by
 have h:=(List.take_append_getElem hl).symm;rw[h,List.flatten_append];simp
theorem zz3 {ls:List (List UInt8)} (k:Nat):(ls.take k).flatten.length≤ls.flatten.length:=by
 conv=>rhs;rw[←List.take_append_drop k ls,List.flatten_append,List.length_append]
 omega
theorem kj3 (P:Option Addr) (n c:Nat) (ls:List (List UInt8)) (w:World) (hn:n≤1073741824) (hbig:ls.flatten.length≤1073741824) (hr:kv2 w.heap.size w P n ls):
  Calls Tryz.prog 307 #[.slice P n c] w fun e w'=>∃A' c',e=.returned (.slice A' ls.flatten.length c')∧
   w'.ownsRow w.heap.size 5 1 (.slice A' ls.flatten.length c') ls.flatten.length (bts ls.flatten)∧ls.flatten.length≤c'∧c'≤maxLen∧Below w.heap.size w w':=by
 obtain⟨i0,hi0,hz0,hz1,hz2⟩:=info_parts gx1;have hlen:ls.length=n:=by obtain⟨_,_,h,_⟩:=hr;exact h
 obtain⟨F,hF⟩:∃F,F=ls.flatten.length:=⟨_,rfl⟩;have HF:=Lib.hid hF;have HB:=Lib.hid hbig;rw[←hF]at hbig ⊢;clear hF;go_enter Tryz.func307,Tryz.ntmps307;go_wp2
 go_loop [3,11] (fun x i=>∃k:Nat,k≤n∧i=.int .i64 (k:Int)∧x=.int .i64 (((ls.take k).flatten.length:Nat):Int)) (fun _ i=>n - (intOf i).toNat)
 case atStart=>exact⟨0,Nat.zero_le _,rfl,rfl⟩
 case round=>
  obtain⟨k,hk,rfl,rfl⟩:=hrel
  by_cases hlt:k < n
  ·obtain⟨a,A,k',c',hl,rfl,_,hc,hkc,hcm,hr2⟩:=hr.at_ hlt
   have ht:=sy2 hl;have hb1:=zz3 (ls:=ls) (k+1);have e1:(ls.take (k+1)).flatten.length=(ls.take k).flatten.length+k':=by rw[ht,List.length_append,hr2.yz]
   have hb2:(ls.take k).flatten.length+k'≤1073741824:=by
    have h:ls.flatten.length≤1073741824:=HB;omega
   have E1:=Lib.hid e1;clear ht hb1 e1;generalize (ls.take k).flatten.length=L at *;have hge:((L:Int)+(k':Int) < 0)=False:=by simp;omega
   go_wp2
   go_round
   case rel=>exact⟨k+1,by omega,by go_num,by have e1:(ls.take (k+1)).flatten.length=L+k':=E1;rw[e1];go_num⟩
   case measure=>simp[intOf];omega
  ·obtain rfl:k=n:=by omega
   have e1:(ls.take k).flatten.length=F:=by
    have h:F=ls.flatten.length:=HF;rw[List.take_of_length_le (by omega),h]
   rw[e1];clear e1;go_wp2_with fail;refine(hj4 F hbig w).mono ?_;rintro e w1 ⟨A1,c1,rfl,ho1,hb1⟩;go_wp2
   go_loopw [6,27] (fun o i wr=>∃(j:Nat) (A':Option Addr) (M c':Nat),j≤k∧o=.slice A' M c'∧i=.int .i64 (j:Int)∧wr.ownsRow w.heap.size 5 1 (.slice A' M c') M (bts (ls.take j).flatten)∧Below w.heap.size w wr) (fun _ i _=>k - (intOf i).toNat)
   case atStart=>exact⟨0,A1,0,c1,Nat.zero_le _,rfl,rfl,by simpa [bts] using ho1,hb1⟩
   case round=>
    obtain⟨j,A',M,c',hj,rfl,rfl,hown,hb⟩:=hrel;have hML:M=(ls.take j).flatten.length:=by
     have h1:=hown.1;rw[vk]at h1;omega
    by_cases hjk:j < k
    ·obtain⟨a,A,k',c2,hl,rfl,hab,hc,hkc,hcm,hr2⟩:=(hr.below hb).at_ hjk
     have ht:=sy2 hl;have hb1:=zz3 (ls:=ls) (j+1);have hb2:M+k'≤1073741824:=by
      have h:ls.flatten.length≤1073741824:=HB;have e1:(ls.take (j+1)).flatten.length=(ls.take j).flatten.length+k':=by rw[ht,List.length_append,hr2.yz]
      omega
     have hnew:bts (ls.take j).flatten++bts ls[j]=bts (ls.take (j+1)).flatten:=by rw[ht,rk1]
     have h1c:=ak1 ls[j];generalize bts ls[j]=X at *;generalize hY:bts (ls.take (j+1)).flatten=Y at *;generalize bts (ls.take j).flatten=Z at *;have HN:=Lib.hid hnew;have HY:=Lib.hid hY;clear hY hML ht hb1 hnew;go_wp2_with (at_builtin;refine jq ?_);refine gy (lq rfl (.tmp 31) (.tmp 32) _ rfl w.heap.size 5 i0 _ 1 1 Tryz.underlying56 hi0 hz0 hz1 hz2 rfl (by omega) w hb hb.size _ M Z rfl hown w.heap.size A k' c2 X rfl hr2 h1c (M+k') Y rfl HN (by unfold maxLen;omega) (by omega) ?_);intro A3 c3 w3 hown3 hb3 _ hc3 hm3;go_wp2;go_roundw
     case rel=>exact⟨j+1,A3,M+k',c3,by omega,rfl,by go_num,by have hY:bts (ls.take (j+1)).flatten=Y:=HY;rw[hY];exact hown3,hb3⟩
     case measure=>simp[intOf];omega
    ·obtain rfl:j=k:=by omega
     have e1:ls.take j=ls:=List.take_of_length_le (by omega);rw[e1]at hown hML;have h:F=ls.flatten.length:=HF;have hMF:M=F:=by omega
     subst hMF;obtain⟨A4,c4,e4,h5,h6,_⟩:=ay hown;injection e4 with e5 e6 e7;subst e5;subst e7;clear hML h e1;go_wp2;go_ret;exact⟨A',c',rfl,hown,h5,h6,hb⟩
theorem dk5 (w:World) (e:TypeId) (A1 A2 A3:Option Addr) (n1 n2 n3 c1 c2 c3:Nat) (l1 l2 l3:List UInt8) (h1:Row w.heap.size w A1 n1 1 (bts l1)) (h2:Row w.heap.size w A2 n2 1 (bts l2)) (h3:Row w.heap.size w A3 n3 1 (bts l3))
  (k1:n1≤c1) (k2:n2≤c2) (k3:n3≤c3) (m1:c1≤maxLen) (m2:c2≤maxLen) (m3:c3≤maxLen):
  kv2 (w.alloc (.cells #[.slice A1 n1 c1,.slice A2 n2 c2,.slice A3 n3 c3] e)).heap.size (w.alloc (.cells #[.slice A1 n1 c1,.slice A2 n2 c2,.slice A3 n3 c3] e)) (some ⟨w.heap.size,0,none⟩) 3 [l1,l2,l3]:=by
 refine⟨_,(Row.new w #[.slice A1 n1 c1,.slice A2 n2 c2,.slice A3 n3 c3] e (n:=3) (size:=1) rfl).up (by simp),rfl,fun i hi=>?_⟩
 rcases i with _|_|_|i
 ·exact⟨A1,n1,c1,rfl,k1,m1,(h1.alloc (Nat.le_refl _) _).up (by simp)⟩
 ·exact⟨A2,n2,c2,rfl,k2,m2,(h2.alloc (Nat.le_refl _) _).up (by simp)⟩
 ·exact⟨A3,n3,c3,rfl,k3,m3,(h3.alloc (Nat.le_refl _) _).up (by simp)⟩
 ·simp at hi
  omega
theorem lj4 (w:World) (e:TypeId) (k n:Nat) (hk:k < 256) (hn:n≤60000):Row (w.alloc (.cells #[.int .u8 (k:Int),.int .u8 ((n:Int) / 65536),.int .u8 ((n:Int) / 256),.int .u8 ((n:Int) % 256)] e)).heap.size
  (w.alloc (.cells #[.int .u8 (k:Int),.int .u8 ((n:Int) / 65536),.int .u8 ((n:Int) / 256),.int .u8 ((n:Int) % 256)] e)) (some ⟨w.heap.size,0,none⟩) 4 1 (bts (Fr.head k n)):=by
 have h:=(Row.new w #[.int .u8 (k:Int),.int .u8 ((n:Int) / 65536),.int .u8 ((n:Int) / 256),.int .u8 ((n:Int) % 256)] e (n:=4) (size:=1) rfl).up (B':=(w.alloc (.cells #[.int .u8 (k:Int),.int .u8 ((n:Int) / 65536),.int .u8 ((n:Int) / 256),.int .u8 ((n:Int) % 256)] e)).heap.size) (by simp);have e1:bts (Fr.head k n)=[.int .u8 (k:Int),.int .u8 ((n:Int) / 65536),.int .u8 ((n:Int) / 256),.int .u8 ((n:Int) % 256)]:=by
  simp only[bts,Fr.head,List.map_cons,List.map_nil,UInt8.toNat_ofNat',Nat.reducePow];rw[show ((k % 256:Nat):Int)=(k:Int) from by omega,show ((n / 65536 % 256:Nat):Int)=(n:Int) / 65536 from by omega,show ((n / 256 % 256:Nat):Int)=(n:Int) / 256 from by omega,show ((n % 256:Nat):Int)=(n:Int) % 256 from by omega]
 rw[e1];exact h
theorem kw2 (A:Option Addr) (N c:Nat) (l:List UInt8) (k:Nat) (B:Option Addr) (M d:Nat) (m:List UInt8) (w:World) (hN:N≤500000000) (hNc:N≤c) (hc:c≤maxLen) (hr:Row w.heap.size w A N 1 (bts l))
  (h1:1≤k) (h2:k≤100) (hM:M≤60000) (hMd:M≤d) (hd:d≤maxLen) (hq:Row w.heap.size w B M 1 (bts m)):
  Calls Tryz.prog 250 #[.slice A N c,.int .i64 (k:Int),.slice B M d] w fun e w'=>∃A' K c',e=.returned (.tuple #[.slice A' K c',.int .i64 0])∧
   w'.ownsRow w.heap.size 5 1 (.slice A' K c') K (bts (l++Fr.put k m))∧K≤c'∧c'≤maxLen∧Below w.heap.size w w':=by
 have a1:((k:Int) < 1)=False:=by simp;omega
 have a2:((100:Int) < (k:Int))=False:=by simp;omega
 have a3:((60000:Int) < (M:Int))=False:=by simp;omega
 go_enter Tryz.func250,Tryz.ntmps250;go_wp2_with fail;refine(uy1 _ 4 4 (Fr.head k M) _ (Nat.le_refl _) (by decide) (by omega) (lj4 w _ k M (by omega) hM)).mono ?_;rintro e w1 ⟨A1,c1,rfl,ho1,hc1,hm1,hb1⟩;have hb1':=az ((Below.refl w.heap.size w).alloc (Nat.le_refl _) _) hb1;have ho1':=Row.own ho1;clear ho1 hb1;have hr1:=(hr.below hb1').up hb1'.size;have hq1:=(hq.below hb1').up hb1'.size;go_wp2_with fail;refine(uy1 B M d m w1 hMd hd (by omega) hq1).mono ?_;rintro e w2 ⟨A2,c2,rfl,ho2,hc2,hm2,hb2⟩;have hb2':=az hb1' hb2;have ho2':=Row.own ho2;have hr2:=(hr1.below hb2).up hb2.size;have ho12:=(ho1'.below hb2).up hb2.size;have hb1:=hb1';clear ho2 hb2 hb1';have hfl:[l,Crc.jw (Fr.head k M),Crc.jw m].flatten=l++Fr.put k m:=by simp[Fr.put,hq.yz]
 have hl1:=hr.yz;have hl2:(l++Fr.put k m).length≤1073741824:=by
  rw[List.length_append,Fr.qw,hq.yz];omega
 have HL:=Lib.hid hl2;have HF:=Lib.hid hfl;have hrows:=dk5 w2 56 A A1 A2 N (4+4) (M+4) c c1 c2 l _ _ hr2 ho12 ho2' hNc hc1 hc2 hc hm1 hm2;clear hl2 hfl;go_wp2_with fail;refine(kj3 _ 3 3 _ _ (by omega) (by have h:[l,Crc.jw (Fr.head k M),Crc.jw m].flatten=l++Fr.put k m:=HF;rw[h];exact HL) hrows).mono ?_;rintro e w3 ⟨A3,c3,rfl,ho3,hc3,hm3,hb3⟩;have hfl:[l,Crc.jw (Fr.head k M),Crc.jw m].flatten=l++Fr.put k m:=HF;rw[hfl]at ho3 hc3 ⊢;have hb:=az (hb2'.alloc hb2'.size _) hb3;have ho:=own_base ho3 (Nat.le_trans hb2'.size (by simp):w.heap.size≤(w2.alloc _).heap.size);generalize (l++Fr.put k m).length=K at *;clear ho3 hb3 hfl;go_wp2;go_ret2;exact⟨A3,K,c3,rfl,ho,hc3,hm3,hb⟩
end
section
open Go.RowKit
theorem fz2 {B n:Nat} {w:World} {A:Option Addr} {l:List UInt8} (h:Row B w A n 1 (bts l)) (c:Nat):(convert 56 9 (.slice A n c)).run Tryz.prog w=.ok (.string ⟨l.toArray⟩) w:=
 jj4 _ _ 5 Tryz.underlying56 Tryz.underlying5 Tryz.underlying9 h c
theorem gz3 (A:Option Addr) (n c:Nat) (l:List UInt8) (w:World) (hn:n≤c) (hm:c≤maxLen) (h4:4≤n) (hbig:n≤1073741824) (hr:Row w.heap.size w A n 1 (bts l)) (hne:(Crc.jw (l.take (n - 4))==l)=false):
  Calls Tryz.prog 228 #[.slice A n c] w fun e w'=>e=.returned (.tuple #[.slice none 0 0,.int .i64 5])∧Below w.heap.size w w':=by
 have hm':c≤9223372036854775807:=hm;have hcut:Row w.heap.size w A (n - 4) 1 (bts (l.take (n - 4))):=by
  have:=hr.pre (m:=n - 4) (by omega)
  rwa [Nat.mul_one,←ej1]at this
 have hcv:=fz2 hr.drew c;go_enter Tryz.func228,Tryz.ntmps228;go_upto_region 4 with (fail)
 go_cut [11] (fun s wx=>s=.bool true∧Below w.heap.size w wx)
 case first=>
  go_region_with (go_at_call 288;refine(uy1 A (n - 4) c (l.take (n - 4)) _ (by omega) hm (by omega) hcut.drew).mono ?_;rintro e w1 ⟨A1,c1,rfl,ho1,_,_,hb1⟩;rw[Nat.sub_add_cancel h4]at ho1;have hcv1:=fz2 (Row.own ho1) c1;have hcv2:=fz2 (hr.drew.below hb1) c)
  all_goals (go_wp2_with fail;go_meet;exact⟨rfl,(Below.refl _ _).drew.trans hb1⟩)
 case rest=>
  obtain⟨rfl,hb⟩:=hcut;go_wp2;go_ret2;exact⟨rfl,hb⟩
theorem oq2 (A:Option Addr) (n c:Nat) (l:List UInt8) (w:World) (hn:n≤c) (hm:c≤maxLen) (h4:4≤n) (hbig:n≤1073741824) (hr:Row w.heap.size w A n 1 (bts l)) (hne:(Crc.jw (l.take (n - 4))==l)=true):
  Calls Tryz.prog 228 #[.slice A n c] w fun e w'=>∃A' c',e=.returned (.tuple #[.slice A' (n - 4) c',.int .i64 0])∧w'.ownsRow w.heap.size 5 1 (.slice A' (n - 4) c') (n - 4) (bts (l.take (n - 4)))∧n - 4≤c'∧c'≤maxLen∧Below w.heap.size w w':=by
 obtain⟨i0,hi0,hz0,hz1,hz2⟩:=info_parts gx1;have hm':c≤9223372036854775807:=hm;have hpre:Row w.heap.size w A (n - 4) 1 (bts (l.take (n - 4))):=by
  have:=hr.pre (m:=n - 4) (by omega)
  rwa [Nat.mul_one,←ej1]at this
 have hcv:=fz2 hr.drew c;have hne':(!(Crc.jw (l.take (n - 4))==l))=false:=by rw[hne];rfl
 go_enter Tryz.func228,Tryz.ntmps228;go_upto_region 4 with (fail)
 go_cut [11] (fun s wx=>s=.bool false∧Below w.heap.size w wx)
 case first=>
  go_region_with (go_at_call 288;refine(uy1 A (n - 4) c (l.take (n - 4)) _ (by omega) hm (by omega) hpre.drew).mono ?_;rintro e w1 ⟨A1,c1,rfl,ho1,_,_,hb1⟩;rw[Nat.sub_add_cancel h4]at ho1;have hcv1:=fz2 (Row.own ho1) c1;have hcv2:=fz2 (hr.drew.below hb1) c)
  all_goals (go_wp2_with fail;go_meet;exact⟨rfl,(Below.refl _ _).drew.trans hb1⟩)
 case rest=>
  obtain⟨rfl,hb⟩:=hcut;clear hne hne' hcv;go_wp2_with (at_builtin;refine jq ?_);refine gy (uw rfl (.const (.slice none 0 0)) (.tmp 22) _ rfl w.heap.size 5 i0 _ 1 1 Tryz.underlying56 hi0 hz0 hz1 hz2 rfl (by omega) w hb hb.size rfl w.heap.size A (n - 4) c (bts (l.take (n - 4))) rfl (hpre.below hb) (ak1 _) (by unfold maxLen;omega) (by omega) ?_);intro A2 c2 w2 hown2 hb2 _ hc2 hm2;go_wp2;go_ret2;exact⟨A2,c2,rfl,hown2,hc2,hm2,hb2⟩
end
section
open Go.RowKit
theorem ex3 (l:List UInt8) (k:Nat) (hk:k < (l.take 4).length):Fr.u l k=((l.take 4)[k]).toNat:=by
 have h:k < l.length:=by rw[List.length_take]at hk;omega
 simp[Fr.u,h]
theorem head4 {w:World} {B g:Nat} {l:List UInt8} (h:Row B w (some ⟨g,0,none⟩) 4 1 (bts (l.take 4))):∃x0 x1 x2 x3:UInt8,w.cell? ⟨g,0,none⟩=some (.int .u8 (x0.toNat:Int))∧w.cell? ⟨g,1,none⟩=some (.int .u8 (x1.toNat:Int))∧
  w.cell? ⟨g,2,none⟩=some (.int .u8 (x2.toNat:Int))∧w.cell? ⟨g,3,none⟩=some (.int .u8 (x3.toNat:Int))∧Fr.u l 0=x0.toNat∧Fr.size l=x1.toNat *65536+x2.toNat *256+x3.toNat:=by
 obtain⟨a0,h0,e0,_,c0⟩:=h.bt (k:=0) (by omega);obtain⟨a1,h1,e1,_,c1⟩:=h.bt (k:=1) (by omega);obtain⟨a2,h2,e2,_,c2⟩:=h.bt (k:=2) (by omega);obtain⟨a3,h3,e3,_,c3⟩:=h.bt (k:=3) (by omega);injection e0 with e0;injection e1 with e1;injection e2 with e2;injection e3 with e3;subst e0;subst e1;subst e2;subst e3;exact⟨_,_,_,_,c0,c1,c2,c3,ex3 l 0 h0,by rw[Fr.size,ex3 l 1 h1,ex3 l 2 h2,ex3 l 3 h3]⟩
theorem px4 (m x k:Nat) (hx:x < 2 ^ k) (h:m *2 ^ k+x < 9223372036854775808):bits .or .i64 ((m *2 ^ k:Nat):Int) (x:Int)=((m *2 ^ k+x:Nat):Int):=by
 have e:BitVec.ofInt 64 ((m *2 ^ k:Nat):Int)|||BitVec.ofInt 64 (x:Int)=BitVec.ofNat 64 (m *2 ^ k+x):=by
  rw[BitVec.ofInt_natCast,BitVec.ofInt_natCast];apply BitVec.eq_of_toNat_eq;rw[BitVec.toNat_or,BitVec.toNat_ofNat,BitVec.toNat_ofNat,BitVec.toNat_ofNat,Nat.mod_eq_of_lt (by omega),Nat.mod_eq_of_lt (by omega),Nat.mod_eq_of_lt (by omega),Nat.mul_comm m,Nat.two_pow_add_eq_or_of_lt hx]
 change IntKind.i64.wrap (((BitVec.ofInt 64 ((m *2 ^ k:Nat):Int)|||BitVec.ofInt 64 (x:Int)).toNat:Nat):Int)=_;rw[e,BitVec.toNat_ofNat,Nat.mod_eq_of_lt (by omega),IntKind.wrap_i64];omega
theorem tk4 (a b c:UInt8):bits .or .i64 (bits .or .i64 ((a.toNat:Int)*65536) ((b.toNat:Int)*256)) (c.toNat:Int)=((a.toNat *65536+b.toNat *256+c.toNat:Nat):Int):=by
 have ha:a.toNat < 256:=a.toNat_lt;have hb:b.toNat < 256:=b.toNat_lt;have hc:c.toNat < 256:=c.toNat_lt;have h1:=px4 a.toNat (b.toNat *256) 16 (by omega) (by omega);have h2:=px4 (a.toNat *256+b.toNat) c.toNat 8 (by omega) (by omega);rw[show ((a.toNat:Int)*65536)=((a.toNat *2 ^ 16:Nat):Int) from by omega,show ((b.toNat:Int)*256)=((b.toNat *256:Nat):Int) from by omega,h1,
  show a.toNat *2 ^ 16+b.toNat *256=(a.toNat *256+b.toNat)*2 ^ 8 from by omega,h2]
theorem uw2 (A:Option Addr) (N c:Nat) (l:List UInt8) (p:Nat) (w:World) (hN:N≤1073741824) (hNc:N≤c) (hc:c≤maxLen) (hr:Row w.heap.size w A N 1 (bts l)) (hp:p≤N):
  Calls Tryz.prog 153 #[.slice A N c,.int .i64 (p:Int)] w fun e w'=>∃A' M c',e=.returned (.tuple #[.int .i64 ((Fr.take l p).1:Int),.slice A' M c',.int .i64 ((Fr.take l p).2.2.1:Int),.int .i64 ((Fr.take l p).2.2.2:Int)])∧
   w'.ownsRow w.heap.size 5 1 (.slice A' M c') M (bts (Fr.take l p).2.1)∧M≤c'∧c'≤maxLen∧Below w.heap.size w w':=by
 have hln:=hr.yz;have a1:((p:Int) < 0)=False:=by simp
 have a2:((N:Int) < (p:Int))=False:=by simp;omega
 obtain⟨res,hres0⟩:∃r,Fr.take l p=r:=⟨_,rfl⟩;rw[hres0];have HRES:=Lib.hid hres0;clear hres0;obtain⟨A1,hA1⟩:∃A1,(if c=p then A else Option.map (fun x=>x.add p) A)=A1:=⟨_,rfl⟩;have hrest:Row w.heap.size w A1 (N - p) 1 (bts (l.drop p)):=by
  have h:=hr.cut (A':=A1) hp (Nat.le_refl N) (fun hlt=>by rw[←hA1,if_neg (by omega),Nat.mul_one]);rw[Nat.mul_one,Nat.mul_one,←jx2,←ej1]at h
  rwa [List.take_of_length_le (by rw[List.length_drop];omega)]at h
 by_cases h8:N - p < 8
 ·obtain rfl:res=(0,[],0,4):=by
   have hr0:Fr.take l p=res:=HRES;rw[←hr0];unfold Fr.take;rw[if_pos (by omega)]
  clear hrest;go_enter Tryz.func153,Tryz.ntmps153;go_wp2;exact bodyPost_ret (v:=.tuple #[.int .i64 0,.slice none 0 0,.int .i64 0,.int .i64 4]) (by simp[results,go_sem]) rfl ⟨none,0,0,rfl,World.ownsRow_nil _ _ _ _,Nat.le_refl _,Nat.zero_le _,Below.refl _ _⟩
 ·obtain⟨a,rfl,hab⟩:=hr.some_ (by rw[vk];omega)
  have hA2:some (a.add p)=A1:=by rw[←hA1,if_neg (by omega)];rfl
  subst hA2;clear hA1;have hhead:Row w.heap.size w (some (a.add p)) 8 1 (bts ((l.drop p).take 8)):=by
   have h:=hrest.pre (m:=8) (by omega)
   rwa [Nat.mul_one,←ej1]at h
  have h44:((l.drop p).take 8).take 4=(l.drop p).take 4:=by rw[List.take_take];rfl
  have hd8:((N - p:Nat):Int) < 8↔False:=by simp;omega
  by_cases hs1:Crc.jw ((l.drop p).take 4)=(l.drop p).take 8
  ·have hop:=oq2 (some (a.add p)) 8 (c - p) ((l.drop p).take 8) w (by omega) (by omega) (by omega) (by omega) hhead (by rw[show 8 - 4=4 from rfl,h44];simpa using hs1)
   rw[show 8 - 4=4 from rfl,h44]at hop;go_enter Tryz.func153,Tryz.ntmps153;go_wp2_with fail;refine hop.mono ?_;rintro e w1 ⟨A2,c2,rfl,ho1,hc1,hm1,hb1⟩;have hrest1:=(hrest.below hb1).up hb1.size;have hhd:=Row.own ho1;clear hop;obtain⟨g,rfl⟩:∃g,A2=some ⟨g,0,none⟩:=by
    rcases ho1.2 with ⟨_,h0⟩|⟨g,_,_,hv,_⟩
    ·cases h0
    ·injection hv with hv _ _
     exact⟨g,hv⟩
   obtain⟨x0,x1,x2,x3,d0,d1,d2,d3,hu,hsz⟩:=head4 hhd;have HU:=Lib.hid hu;have HSZ:=Lib.hid hsz;have hx0:x0.toNat < 256:=x0.toNat_lt;have hx1:x1.toNat < 256:=x1.toNat_lt;have hx2:x2.toNat < 256:=x2.toNat_lt;have hx3:x3.toNat < 256:=x3.toNat_lt;clear hu hsz;have hor:=tk4 x1 x2 x3;have hz:x1.toNat *65536+x2.toNat *256+x3.toNat < 16777216:=by omega
   generalize x1.toNat *65536+x2.toNat *256+x3.toNat=z at *;obtain⟨q,hq⟩:∃q,a.add p=q:=⟨_,rfl⟩;rw[hq]at hrest hhead hrest1;have hx0i:((x0.toNat:Nat):Int)=(x0.toNat:Int):=rfl;generalize x0.toNat=k at *
   by_cases hf:k < 1∨100 < k∨60000 < z
   ·obtain rfl:res=(0,[],0,3):=by
     have hr0:Fr.take l p=res:=HRES;rw[←hr0];have hu:Fr.u (l.drop p) 0=k:=HU;have hsz:Fr.size (l.drop p)=z:=HSZ;unfold Fr.take;rw[if_neg (by omega),if_neg (fun h=>h hs1),hu,hsz,if_pos hf]
    by_cases f1:k < 1
    ·have f1':((k:Int) < 1):=by omega
     go_wp2_with fail
     go_quiet (fail)
     go_wp2
     all_goals exact bodyPost_ret (v:=.tuple #[.int .i64 0,.slice none 0 0,.int .i64 0,.int .i64 3]) (by simp[results,go_sem]) rfl ⟨none,0,0,rfl,World.ownsRow_nil _ _ _ _,Nat.le_refl _,Nat.zero_le _,below_drewN hb1 _⟩
    ·have f1':((k:Int) < 1)=False:=by simp;omega
     by_cases f2:100 < k
     ·have f2':((100:Int) < (k:Int)):=by omega
      go_wp2_with fail
      go_quiet (fail)
      go_wp2
      all_goals exact bodyPost_ret (v:=.tuple #[.int .i64 0,.slice none 0 0,.int .i64 0,.int .i64 3]) (by simp[results,go_sem]) rfl ⟨none,0,0,rfl,World.ownsRow_nil _ _ _ _,Nat.le_refl _,Nat.zero_le _,below_drewN hb1 _⟩
     ·have f2':((100:Int) < (k:Int))=False:=by simp;omega
      have f3':((60000:Int) < (z:Int)):=by omega
      go_wp2_with fail
      go_quiet (fail)
      go_wp2
      all_goals exact bodyPost_ret (v:=.tuple #[.int .i64 0,.slice none 0 0,.int .i64 0,.int .i64 3]) (by simp[results,go_sem]) rfl ⟨none,0,0,rfl,World.ownsRow_nil _ _ _ _,Nat.le_refl _,Nat.zero_le _,below_drewN hb1 _⟩
   ·have f1':((k:Int) < 1)=False:=by simp;omega
    have f2':((100:Int) < (k:Int))=False:=by simp;omega
    have f3':((60000:Int) < (z:Int))=False:=by simp;omega
    by_cases ht:N - p - 8 < z+4
    ·obtain rfl:res=(0,[],0,4):=by
      have hr0:Fr.take l p=res:=HRES;rw[←hr0];have hu:Fr.u (l.drop p) 0=k:=HU;have hsz:Fr.size (l.drop p)=z:=HSZ;unfold Fr.take;rw[if_neg (by omega),if_neg (fun h=>h hs1),hu,hsz,if_neg hf,if_pos (by omega)]
     have f4':(((N - p - 8:Nat):Int) < (z:Int)+4):=by omega
     go_wp2_with fail
     go_quiet (fail)
     go_wp2
     all_goals exact bodyPost_ret (v:=.tuple #[.int .i64 0,.slice none 0 0,.int .i64 0,.int .i64 4]) (by simp[results,go_sem]) rfl ⟨none,0,0,rfl,World.ownsRow_nil _ _ _ _,Nat.le_refl _,Nat.zero_le _,below_drewN hb1 _⟩
    ·have f4':(((N - p - 8:Nat):Int) < (z:Int)+4)=False:=by simp;omega
     have hrest2:Row w1.heap.size w1 (some (q.add 8)) (N - p - 8) 1 (bts (l.drop (p+8))):=by
      have h:=hrest1.cut (A':=some (q.add 8)) (k:=8) (m:=N - p) (by omega) (Nat.le_refl _) (fun _=>rfl);rw[Nat.mul_one,Nat.mul_one,←jx2,←ej1,List.drop_drop]at h
      rwa [List.take_of_length_le (by rw[List.length_drop];omega)]at h
     have hbody:Row w1.heap.size w1 (some (q.add 8)) (z+4) 1 (bts ((l.drop (p+8)).take (z+4))):=by
      have h:=hrest2.pre (m:=z+4) (by omega)
      rwa [Nat.mul_one,←ej1]at h
     have e8:q.add 8=⟨q.block,q.off+8,none⟩:=rfl;rw[e8]at hbody;have h44b:((l.drop (p+8)).take (z+4)).take z=(l.drop (p+8)).take z:=by rw[List.take_take,Nat.min_eq_left (by omega)]
     by_cases hs2:Crc.jw ((l.drop (p+8)).take z)=(l.drop (p+8)).take (z+4)
     ·obtain rfl:res=(k,(l.drop (p+8)).take z,p+8+z+4,0):=by
       have hr0:Fr.take l p=res:=HRES;rw[←hr0];have hu:Fr.u (l.drop p) 0=k:=HU;have hsz:Fr.size (l.drop p)=z:=HSZ;unfold Fr.take;rw[if_neg (by omega),if_neg (fun h=>h hs1),hu,hsz,if_neg hf,if_neg (by omega),if_neg (fun h=>h hs2)]
      have hop2:=fun nq=>oq2 (some ⟨q.block,q.off+8,none⟩) (z+4) (c - p - 8) ((l.drop (p+8)).take (z+4)) (w1.drewN nq) (by omega) (by omega) (by omega) (by omega) (hbody.drewN nq) (by rw[Nat.add_sub_cancel,h44b];simpa using hs2);rw[Nat.add_sub_cancel,h44b]at hop2;clear hs1 hs2 h44 h44b;go_wp2_with fail
      go_quiet (fail)
      go_wp2_with fail;refine(hop2 _).mono ?_;rintro e w2 ⟨A4,c4,rfl,ho4,hc4,hm4,hb4⟩;have hb:=az (below_drewN hb1 nq) hb4;have ho:=own_base ho4 (hb1.size:w.heap.size≤(w1.drewN nq).heap.size);clear hop2 hb4 ho4 hbody hrest2 hrest1 hhd;go_wp2;refine bodyPost_ret (v:=.tuple #[.int .i64 (k:Int),.slice A4 z c4,.int .i64 ((p:Int)+4+4+(z:Int)+4),.int .i64 0]) (by simp[results,go_sem]) rfl ⟨A4,z,c4,?_,ho,hc4,hm4,hb⟩;have e5:(p:Int)+4+4+(z:Int)+4=((p+8+z+4:Nat):Int):=by omega
      rw[e5];rfl
     ·obtain rfl:res=(0,[],0,5):=by
       have hr0:Fr.take l p=res:=HRES;rw[←hr0];have hu:Fr.u (l.drop p) 0=k:=HU;have hsz:Fr.size (l.drop p)=z:=HSZ;unfold Fr.take;rw[if_neg (by omega),if_neg (fun h=>h hs1),hu,hsz,if_neg hf,if_neg (by omega),if_pos hs2]
      have hop2:=fun nq=>gz3 (some ⟨q.block,q.off+8,none⟩) (z+4) (c - p - 8) ((l.drop (p+8)).take (z+4)) (w1.drewN nq) (by omega) (by omega) (by omega) (by omega) (hbody.drewN nq) (by rw[Nat.add_sub_cancel,h44b];simpa using hs2);clear hs1 hs2 h44 h44b;go_wp2_with fail
      go_quiet (fail)
      go_wp2_with fail;refine(hop2 _).mono ?_;rintro e w2 ⟨rfl,hb4⟩;have hb:=az (below_drewN hb1 nq) hb4;clear hop2 hb4 hbody hrest2 hrest1 hhd;go_wp2;exact bodyPost_ret (v:=.tuple #[.int .i64 0,.slice none 0 0,.int .i64 0,.int .i64 5]) (by simp[results,go_sem]) rfl ⟨none,0,0,rfl,World.ownsRow_nil _ _ _ _,Nat.le_refl _,Nat.zero_le _,hb⟩
  ·have hop:=gz3 (some (a.add p)) 8 (c - p) ((l.drop p).take 8) w (by omega) (by omega) (by omega) (by omega) hhead (by rw[show 8 - 4=4 from rfl,h44];simpa using hs1)
   obtain rfl:res=(0,[],0,5):=by
    have hr0:Fr.take l p=res:=HRES;rw[←hr0];unfold Fr.take;rw[if_neg (by omega),if_pos hs1]
   go_enter Tryz.func153,Tryz.ntmps153;go_wp2_with fail;refine hop.mono ?_;rintro e w1 ⟨rfl,hb1⟩;clear hop;go_wp2;exact bodyPost_ret (v:=.tuple #[.int .i64 0,.slice none 0 0,.int .i64 0,.int .i64 5]) (by simp[results,go_sem]) rfl ⟨none,0,0,rfl,World.ownsRow_nil _ _ _ _,Nat.le_refl _,Nat.zero_le _,hb1⟩
end
section
open Go.RowKit
def i64v (ks:List Nat):List Value:=ks.map fun k:Nat=>.int .i64 (k:Int)
theorem bv4 (ks:List Nat) (k:Nat):i64v ks++[.int .i64 (k:Int)]=i64v (ks++[k]):=by simp[i64v]
theorem ly2:(Tryz.prog.info? 3).map (fun i=>(i.zero,i.size,i.bytes))=some (some (.int .i64 0),1,8):=by kernel_rfl
theorem qx3:(Tryz.prog.info? 56).map (fun i=>(i.zero,i.size,i.bytes))=some (some (.slice none 0 0),1,24):=by kernel_rfl
structure Bods (base:Nat) (w:World) (kv bv:Value) (ks:List Nat) (bs:List (List UInt8)):Prop where
 kinds:w.ownsRow base 3 1 kv ks.length (i64v ks)
 row:∃vs,w.ownsRow base 56 1 bv bs.length vs∧∀i (h:i < bs.length),∃A k c,vs[i]?=some (.slice A k c)∧k≤c∧c≤maxLen∧Row w.heap.size w A k 1 (bts bs[i])∧∀a,A=some a→a.block < w.heap.size∧some a.block≠kv.ownBlock∧some a.block≠bv.ownBlock∧base≤a.block
 sep:∀g,kv.ownBlock=some g→bv.ownBlock≠some g
variable {base:Nat} {w w':World} {kv bv:Value} {ks:List Nat} {bs:List (List UInt8)}
theorem Bods.start (base:Nat) (w:World):Bods base w (.slice none 0 0) (.slice none 0 0) [] []:=
 ⟨World.ownsRow_nil _ _ _ _,⟨[],World.ownsRow_nil _ _ _ _,fun i h=>absurd h (by simp)⟩,fun g h=>by cases h⟩
theorem Bods.below (h:Bods base w kv bv ks bs) (hb:Below w.heap.size w w'):Bods base w' kv bv ks bs:=by
 obtain⟨vs,hv,hx⟩:=h.row;refine⟨own_below h.kinds hb,⟨vs,own_below hv hb,fun i hi=>?_⟩,h.sep⟩;obtain⟨A,k,c,e,h1,h2,h3,h4⟩:=hx i hi;exact⟨A,k,c,e,h1,h2,(h3.below hb).up hb.size,fun a ha=>⟨Nat.lt_of_lt_of_le (h4 a ha).1 hb.size,(h4 a ha).2⟩⟩
theorem Bods.alloc (h:Bods base w kv bv ks bs) (o:Obj):Bods base (w.alloc o) kv bv ks bs:=h.below ((Below.refl _ _).alloc (Nat.le_refl _) o)
theorem ly1 {v v':Value} {b:Nat} (hv:v'.ownBlock=v.ownBlock∨v'.ownBlock=some w.heap.size) (hb:b < w.heap.size) (h:some b≠v.ownBlock):some b≠v'.ownBlock:=by
 rcases hv with hv|hv
 ·rw[hv];exact h
 ·rw[hv]
  intro e;injection e with e;omega
theorem Bods.addK (h:Bods base w kv bv ks bs) {kv':Value} {k:Nat} (hg:w.grownBy w' kv.ownBlock) (ho:w'.ownsRow base 3 1 kv' (ks.length+1) (i64v (ks++[k]))) (hv:kv'.ownBlock=kv.ownBlock∨kv'.ownBlock=some w.heap.size):Bods base w' kv' bv (ks++[k]) bs:=by
 obtain⟨vs,hr,hx⟩:=h.row;have hlt:∀g,bv.ownBlock=some g→g < w.heap.size:=fun g e=>(hr.lt g e).2;have hne:bv.ownBlock=none∨bv.ownBlock≠kv.ownBlock:=by
  cases e:bv.ownBlock with
  |none=>exact .inl rfl
  |some g=>exact .inr fun e2=>h.sep g e2.symm e
 refine⟨by simpa using ho,⟨vs,hr.kept hg hne,fun i hi=>?_⟩,?_⟩
 ·obtain⟨A,k,c,e,h1,h2,h3,h4⟩:=hx i hi
  exact⟨A,k,c,e,h1,h2,(h3.grow hg (fun a ha=>(h4 a ha).2.1)).up hg.size,fun a ha=>⟨Nat.lt_of_lt_of_le (h4 a ha).1 hg.size,ly1 hv (h4 a ha).1 (h4 a ha).2.1,(h4 a ha).2.2⟩⟩
 ·intro g hg2 hb2
  have h1:=hlt g hb2;exact ly1 hv h1 (fun e=>h.sep g e.symm hb2) hg2.symm
theorem Bods.addB (h:Bods base w kv bv ks bs) {bv':Value} {b:List UInt8} {A:Option Addr} {M c:Nat} {vs':List Value} (hM:M≤c) (hc:c≤maxLen) (hr:Row w.heap.size w A M 1 (bts b)) (hA:∀a,A=some a→a.block < w.heap.size∧some a.block≠kv.ownBlock∧some a.block≠bv.ownBlock∧base≤a.block)
  (hg:w.grownBy w' bv.ownBlock) (hvs:∀vs,w.ownsRow base 56 1 bv bs.length vs→vs'=vs++[.slice A M c]) (ho:w'.ownsRow base 56 1 bv' (bs.length+1) vs') (hv:bv'.ownBlock=bv.ownBlock∨bv'.ownBlock=some w.heap.size):Bods base w' kv bv' ks (bs++[b]):=by
 obtain⟨vs,hvr,hx⟩:=h.row;obtain rfl:=hvs vs hvr;have hlt:∀g,kv.ownBlock=some g→g < w.heap.size:=fun g e=>(h.kinds.lt g e).2;have hne:kv.ownBlock=none∨kv.ownBlock≠bv.ownBlock:=by
  cases e:kv.ownBlock with
  |none=>exact .inl rfl
  |some g=>exact .inr fun e2=>h.sep g e e2.symm
 have hvl:vs.length=bs.length:=by have:=hvr.1;omega
 refine⟨h.kinds.kept hg hne,⟨vs++[.slice A M c],by simpa using ho,fun i hi=>?_⟩,?_⟩
 ·by_cases hi2:i < bs.length
  ·obtain⟨A,k,c,e,h1,h2,h3,h4⟩:=hx i hi2
   refine⟨A,k,c,by rw[List.getElem?_append_left (by omega)];exact e,h1,h2,?_,fun a ha=>⟨Nat.lt_of_lt_of_le (h4 a ha).1 hg.size,(h4 a ha).2.1,ly1 hv (h4 a ha).1 (h4 a ha).2.2.1,(h4 a ha).2.2.2⟩⟩;rw[List.getElem_append_left hi2];exact(h3.grow hg (fun a ha=>(h4 a ha).2.2.1)).up hg.size
  ·have hi3:i=bs.length:=by simp at hi;omega
   subst hi3;refine⟨A,M,c,by rw[List.getElem?_append_right (by omega),hvl];simp,hM,hc,?_,fun a ha=>⟨Nat.lt_of_lt_of_le (hA a ha).1 hg.size,(hA a ha).2.1,ly1 hv (hA a ha).1 (hA a ha).2.2.1,(hA a ha).2.2.2⟩⟩;have e1:(bs++[b])[bs.length]'(by simp)=b:=by simp
   rw[e1];exact(hr.grow hg (fun a ha=>(hA a ha).2.2.1)).up hg.size
 ·intro g hg2 hb2
  have h1:=hlt g hg2;exact ly1 hv h1 (fun e=>h.sep g hg2 e.symm) hb2.symm
theorem jz4 {w:World} {base:Nat} {e:TypeId} {v:Value} {n size:Nat} {xs ys:List Value} (h:w.ownsRow base e size v n xs) (k:w.ownsRow base e size v n ys):xs=ys:=by
 rcases h.2 with ⟨rfl,rfl⟩|⟨g,cap,cur,rfl,_,hg,_,_,_,ht⟩
 ·have h1:=h.1
  have h2:=k.1;simp at h1 h2;rw[h1,h2]
 ·rcases k.2 with ⟨hv,_⟩|⟨g2,cap2,cur2,hv,_,hg2,_,_,_,ht2⟩
  ·cases hv
  ·injection hv with hv1 _ _
   injection hv1 with hv1;injection hv1 with hv1;subst hv1;rw[hg]at hg2;injection hg2 with hg2;injection hg2 with hg2;subst hg2;rw[←ht,←ht2]
theorem ay3 {f:Nat} {l:List UInt8} {e:Nat} {ks:List Nat} {bs:List (List UInt8)} (h:¬e < l.length):Fr.splitF f l e ks bs=(ks,bs,e,0):=by
 cases f with
 |zero=>rfl
 |succ f=>rw[Fr.splitF,if_neg h]
theorem ry2 (A:Option Addr) (N c:Nat) (l:List UInt8) (w:World) (hN:N≤1000000000) (hNc:N≤c) (hc:c≤maxLen) (hr:Row w.heap.size w A N 1 (bts l)):
  Calls Tryz.prog 229 #[.slice A N c] w fun e w'=>∃kv bv,e=.returned (.tuple #[kv,bv,.int .i64 ((Fr.split l).2.2.1:Int),.int .i64 ((Fr.split l).2.2.2:Int)])∧
   Bods w.heap.size w' kv bv (Fr.split l).1 (Fr.split l).2.1∧Below w.heap.size w w':=by
 obtain⟨ii,hi0,hi1,hi2,hi3⟩:=info_parts ly2;obtain⟨ib,hb0,hb1,hb2,hb3⟩:=info_parts qx3;have hln:=hr.yz;obtain⟨res,hres0⟩:∃r,Fr.split l=r:=⟨_,rfl⟩;rw[hres0];have HRES:=Lib.hid hres0;clear hres0;go_enter Tryz.func229,Tryz.ntmps229;go_wp2
 go_loopw [2,3,4] (fun kv bv x wr=>∃(f e:Nat) (ks:List Nat) (bs:List (List UInt8)) (kA bA:Option Addr) (kc bc:Nat),kv=.slice kA ks.length kc∧bv=.slice bA bs.length bc∧x=.int .i64 (e:Int)∧e≤N∧12 *ks.length≤e∧12 *bs.length≤e∧N < f+e∧Hid (Fr.splitF f l e ks bs=res)∧
  Bods w.heap.size wr kv bv ks bs∧Below w.heap.size w wr) (fun _ _ x _=>N - (intOf x).toNat)
 case atStart=>exact⟨N+1,0,[],[],none,none,0,0,rfl,rfl,rfl,Nat.zero_le _,by simp,by simp,by omega,by have h:Fr.split l=res:=HRES;rw[←h,Fr.split,hln];exact Lib.hid rfl,Bods.start _ _,Below.refl _ _⟩
 case round=>
  obtain⟨f,e,ks,bs,kA,bA,kc,bc,rfl,rfl,rfl,he,hk12,hb12,hf,HS,hbods,hb⟩:=hrel
  by_cases hlt:e < N
  ·have hta:=uw2 A N c l e wr (by omega) hNc hc ((hr.below hb).up hb.size) he
   obtain⟨t,ht0⟩:∃t,Fr.take l e=t:=⟨_,rfl⟩;rw[ht0]at hta;have HT:=Lib.hid ht0;clear ht0;go_wp2_with fail;refine hta.mono ?_;rintro e1 w1 ⟨A1,M1,c1,rfl,ho1,hM1,hc1,hbb1⟩;clear hta
   by_cases hok:t.2.2.2=0
   ·have hok':((t.2.2.2:Int)==0)=true:=by simp[hok]
    have hok2:(!((t.2.2.2:Int)==0))=false:=by rw[hok'];rfl
    have hbods1:=(hbods.below hbb1).alloc (.cells #[.int .i64 (t.1:Int)] 3);have hlt1:=ho1.lt;have hbnd:∀a,A1=some a→wr.heap.size≤a.block∧a.block < w1.heap.size:=fun a ha=>by subst ha;exact hlt1 _ rfl
    have hrow1:=Row.own ho1;have hbw:=az hb hbb1;have hkr:=Row.new w1 #[.int .i64 (t.1:Int)] 3 (n:=1) (size:=1) rfl;go_wp2_with (at_builtin;refine jq ?_);refine gy (xq rfl (.tmp 28) (.tmp 30) _ rfl w.heap.size 3 ii _ 1 8 Tryz.underlying48 hi0 hi1 hi2 hi3 rfl (by omega) w (hbw.alloc hbw.size _) (Nat.le_trans hbw.size (by simp)) (.slice kA ks.length kc) ks.length (i64v ks) rfl hbods1.kinds (w1.heap.size+1) _ 1 1 (by omega) [.int .i64 (t.1:Int)] rfl hkr (by intro u hu;simp at hu;subst hu;rfl) (ks.length+1) (i64v (ks++[t.1])) rfl (bv4 ks t.1) (by unfold maxLen;omega) (by omega) ?_);intro A3 c3 w3 hown3 hbb3 hg3 hc3 hm3 hv3;have hbods3:=hbods1.addK hg3 hown3 hv3;have hrow3:Row w3.heap.size w3 A1 M1 1 (bts t.2.1):=by
     have h:=(hrow1.alloc (Nat.le_refl _) (.cells #[.int .i64 (t.1:Int)] 3)).up (B':=(w1.alloc (.cells #[.int .i64 (t.1:Int)] 3)).heap.size) (by simp);exact(h.grow hg3 (fun a ha=>by
      have h1:=hbnd a ha;intro e2;have h2:=(hbods.kinds.lt _ e2.symm).2;omega)).up hg3.size
    have hA3:∀a,A1=some a→a.block < w3.heap.size∧some a.block≠(Value.slice A3 (ks.length+1) c3).ownBlock∧some a.block≠(Value.slice bA bs.length bc).ownBlock∧w.heap.size≤a.block:=fun a ha=>by
     have h1:=hbnd a ha;have hz:w1.heap.size < w3.heap.size:=Nat.lt_of_lt_of_le (by simp) hg3.size;refine⟨by omega,ly1 hv3 (by simp;omega) (fun e2=>?_),fun e2=>?_,by have:=hb.size;omega⟩
     ·have h2:=(hbods.kinds.lt _ e2.symm).2
      omega
     ·obtain⟨vs,hvs,_⟩:=hbods.row
      have h2:=(hvs.lt _ e2.symm).2;omega
    have hz3:=hbb3.size;clear hbods1 hrow1 hown3 hkr hlt1 hbnd ho1 hg3 hv3;have hbr:=Row.new w3 #[.slice A1 M1 c1] 56 (n:=1) (size:=1) rfl;have hbods4:=hbods3.alloc (.cells #[.slice A1 M1 c1] 56);obtain⟨vs,hvs,hvx⟩:=hbods4.row;go_wp2_with (at_builtin;refine jq ?_);refine gy (xq rfl (.tmp 32) (.tmp 34) _ rfl w.heap.size 56 ib _ 1 24 Tryz.underlying272 hb0 hb1 hb2 hb3 rfl (by omega) w (hbb3.alloc hbb3.size _) (Nat.le_trans hbb3.size (by simp)) (.slice bA bs.length bc) bs.length vs rfl hvs (w3.heap.size+1) _ 1 1 (by omega) [.slice A1 M1 c1] rfl hbr (by intro u hu;simp at hu;subst hu;rfl) (bs.length+1) (vs++[.slice A1 M1 c1]) rfl rfl (by unfold maxLen;omega) (by omega) ?_);intro A5 c5 w5 hown5 hbb5 hg5 hc5 hm5 hv5;have hbods5:=hbods4.addB (b:=t.2.1) hM1 hc1 ((hrow3.alloc (Nat.le_refl _) _).up (by simp)) (fun a ha=>⟨Nat.lt_of_lt_of_le (hA3 a ha).1 (by simp),(hA3 a ha).2⟩) hg5 (fun vs2 h2=>by rw[jz4 hvs h2]) hown5 hv5;clear hbods hbods3 hbods4 hvs hvx hbr hown5 hg5 hv5 hA3 hrow3;go_wp2;go_roundw
    case rel=>
     have ht:Fr.take l e=t:=HT;have hnx:=Fr.zk1 (l:=l) (p:=e) (by rw[ht];exact hok);rw[ht,hln]at hnx;obtain⟨f,rfl⟩:∃g,f=g+1:=⟨f - 1,by omega⟩;have hs:Fr.splitF (f+1) l e ks bs=res:=HS;rw[Fr.splitF,if_pos (by omega),ht,if_pos hok]at hs;refine⟨f,t.2.2.1,ks++[t.1],bs++[t.2.1],A3,A5,c3,c5,by simp,by simp,rfl,by omega,by simp;omega,by simp;omega,by omega,Lib.hid hs,?_,hbb5⟩;exact hbods5
    case measure=>
     have ht:Fr.take l e=t:=HT;have hnx:=Fr.zk1 (l:=l) (p:=e) (by rw[ht];exact hok);rw[ht]at hnx;simp[intOf];omega
   ·have hok':((t.2.2.2:Int)==0)=false:=by simp;omega
    have hok2:(!((t.2.2.2:Int)==0))=true:=by rw[hok'];rfl
    obtain rfl:res=(ks,bs,e,t.2.2.2):=by
     have ht:Fr.take l e=t:=HT;have hs:Fr.splitF f l e ks bs=res:=HS;obtain⟨f,rfl⟩:∃g,f=g+1:=⟨f - 1,by omega⟩;rw[←hs,Fr.splitF,if_pos (by omega),ht,if_neg hok]
    have hbods1:=hbods.below hbb1;have hbw:=az hb hbb1;clear hbods hbb1 ho1;go_wp2;exact bodyPost_ret (v:=.tuple #[.slice kA ks.length kc,.slice bA bs.length bc,.int .i64 (e:Int),.int .i64 (t.2.2.2:Int)]) (by simp[results,go_sem]) rfl ⟨_,_,rfl,hbods1,hbw⟩
  ·obtain rfl:res=(ks,bs,e,0):=by
    have hs:Fr.splitF f l e ks bs=res:=HS;rw[←hs,ay3 (by omega)]
   go_wp2;exact bodyPost_ret (v:=.tuple #[.slice kA ks.length kc,.slice bA bs.length bc,.int .i64 (e:Int),.int .i64 0]) (by simp[results,go_sem]) rfl ⟨_,_,rfl,hbods,hb⟩
end
section
open Go.RowKit
end
section
open Go.RowKit
def bigs (ns:List Nat):Bool:=ns.any fun n=>decide (281474976710656 < n)
theorem cy4 (n:Nat) (w:World):Calls Tryz.prog 330 #[.int .u64 (n:Int)] w fun e w'=>e=.returned (.bool (decide ((281474976710656:Int) < (n:Int))))∧w=w':=by
 go_enter Tryz.func330,Tryz.ntmps330;go_wp2;go_ret;exact⟨rfl,rfl⟩
theorem xk3 {ns:List Nat} {k:Nat} (hl:k < ns.length):bigs (ns.take (k+1))=(bigs (ns.take k)||decide (281474976710656 < ns[k])):=by
 have h:=(List.take_append_getElem hl).symm;unfold bigs;rw[h,List.any_append];simp
theorem zj4 {ns:List Nat} {k:Nat} (hl:k < ns.length) (h:281474976710656 < ns[k]):bigs ns=true:=by
 unfold bigs;rw[List.any_eq_true];exact⟨ns[k],List.getElem_mem hl,by simpa using h⟩
theorem fq4 (A:Option Addr) (n c:Nat) (ns:List Nat) (w:World) (hn:n≤1000) (hr:Row w.heap.size w A n 1 (u64v ns)):
  Calls Tryz.prog 355 #[.slice A n c,.func (.func 330) #[] #[]] w fun e w'=>(∃i:Int,e=.returned (.int .i64 i)∧decide (0≤i)=bigs ns)∧w=w':=by
 have hnn:=hr.yx4;go_enter Tryz.func355,Tryz.ntmps355;go_wp2
 go_loop [8] (fun i=>∃k:Nat,k≤n∧i=.int .i64 (k:Int)∧Hid (bigs (ns.take k)=false)) (fun i=>n - (intOf i).toNat)
 case atStart=>exact⟨0,Nat.zero_le _,rfl,Lib.hid rfl⟩
 case round=>
  obtain⟨k,hk,rfl,hb⟩:=hrel
  by_cases hlt:k < n
  ·obtain⟨a,hl,rfl,_,hc⟩:=hr.un hlt
   have ht:=xk3 hl;have hof:=zj4 hl;generalize ns[k]=x at *;have HT:=Lib.hid ht;clear ht
   by_cases hx:281474976710656 < x
   ·have HO:=Lib.hid (hof hx)
    have hx':(281474976710656:Int) < (x:Int):=by omega
    clear hof;go_wp2_with fail;refine(cy4 x w).mono ?_;rintro e w1 ⟨rfl,rfl⟩;go_wp2;go_ret;exact⟨⟨k,rfl,by have h:bigs ns=true:=HO;rw[h];simp⟩,rfl⟩
   ·have hx':((281474976710656:Int) < (x:Int))=False:=by simp;omega
    clear hof;go_wp2_with fail;refine(cy4 x w).mono ?_;rintro e w1 ⟨rfl,rfl⟩;go_wp2
    go_round
    case rel=>
     refine⟨k+1,by omega,by go_num,Lib.hid ?_⟩;have ht:bigs (ns.take (k+1))=(bigs (ns.take k)||decide (281474976710656 < x)):=HT;have hb':bigs (ns.take k)=false:=hb;rw[ht,hb'];simpa using hx
    case measure=>simp[intOf];omega
  ·have hall:bigs ns=false:=by
    have hb':bigs (ns.take k)=false:=hb
    rwa [List.take_of_length_le (by omega)]at hb'
   have HA:=Lib.hid hall;clear hall;go_wp2;go_ret;exact⟨⟨-1,rfl,by have h:bigs ns=false:=HA;rw[h];rfl⟩,rfl⟩
theorem ow4 (A:Option Addr) (n c:Nat) (ns:List Nat) (w:World) (hn:n≤1000) (hr:Row w.heap.size w A n 1 (u64v ns)):
  Calls Tryz.prog 329 #[.slice A n c,.func (.func 330) #[] #[]] w fun e w'=>e=.returned (.bool (bigs ns))∧w=w':=by
 go_enter Tryz.func329,Tryz.ntmps329;go_wp2_with fail;refine(fq4 A n c ns w hn hr).mono ?_;rintro e w' ⟨⟨i,rfl,hi⟩,rfl⟩;have HI:=Lib.hid hi;clear hi;go_wp2;go_ret;refine⟨?_,rfl⟩;have hi:decide (0≤i)=bigs ns:=HI;rw[←hi];rfl
theorem lx2 (A:Option Addr) (n c:Nat) (ns:List Nat) (w:World) (hn:n≤1000) (hr:Row w.heap.size w A n 1 (u64v ns)):
  Calls Tryz.prog 284 #[.slice A n c] w fun e w'=>e=.returned (.bool (!bigs ns))∧w=w':=by
 go_enter Tryz.func284,Tryz.ntmps284;go_wp2_with fail;refine(ow4 A n c ns w hn hr).mono ?_;rintro e w' ⟨rfl,rfl⟩;go_wp2;go_ret;exact⟨rfl,rfl⟩
end
section
open Go.RowKit
theorem mx2 (g t:Nat):(⟨g,0,none⟩:Addr).add t=⟨g,t,none⟩:=by
 unfold Addr.add;split
 ·subst_vars;rfl
 ·simp
theorem jq2 (w:World) (e:TypeId) (cs:Array Value) (ns:List Nat) (n:Nat) (h:cs.toList=u64v ns) (hn:ns.length=n):Row (w.alloc (.cells cs e)).heap.size (w.alloc (.cells cs e)) (some ⟨w.heap.size,0,none⟩) n 1 (u64v ns):=by
 have h1:=(Row.new w cs e (n:=n) (size:=1) (by rw[←Array.length_toList,h];simp[u64v,hn])).up (B':=(w.alloc (.cells cs e)).heap.size) (by simp)
 rwa [h]at h1
end
section
open Go.RowKit
end
section
open Go.RowKit
theorem lw1 {a:Nat} (h:a≠0) (b:Nat):orElse a b=a:=if_neg h
end
section
open Go.RowKit
end
section
open Go.RowKit
structure Bv where
 g:Nat
 f:Nat
 c:Nat
 a:Nat
 l:Nat
theorem Bods.chg {base:Nat} {w w':World} {kv bv:Value} {ks:List Nat} {bs:List (List UInt8)} {g:Nat} (h:Bods base w kv bv ks bs) (c:Chg [g] w w') (hg:g < base):Bods base w' kv bv ks bs:=by
 have hgr:w.grownBy w' (some g):=⟨c.os,c.tape,c.output,c.size,fun k hk hne=>c.block k hk (by simp;intro e;exact hne (by rw[e]))⟩;obtain⟨vs,hv,hx⟩:=h.row;refine⟨h.kinds.kept hgr (.inr (fun e=>?_)),⟨vs,hv.kept hgr (.inr (fun e=>?_)),fun i hi=>?_⟩,h.sep⟩
 ·have:=(h.kinds.lt _ e).1
  omega
 ·have:=(hv.lt _ e).1
  omega
 ·obtain⟨A,k,c1,e,h1,h2,h3,h4⟩:=hx i hi
  exact⟨A,k,c1,e,h1,h2,(h3.grow hgr (fun a ha e=>by have:=(h4 a ha).2.2.2;injection e with e;omega)).up c.size,fun a ha=>⟨Nat.lt_of_lt_of_le (h4 a ha).1 c.size,(h4 a ha).2⟩⟩
theorem wj2 {base:Nat} {w:World} {kv bv:Value} {ks:List Nat} {bs:List (List UInt8)} (h:Bods base w kv bv ks bs) (hl:ks.length=bs.length) (h0:0 < bs.length):
  ∃gk gb kc bc,kv=.slice (some ⟨gk,0,none⟩) bs.length kc∧bv=.slice (some ⟨gb,0,none⟩) bs.length bc:=by
 obtain⟨vs,hv,_⟩:=h.row
 rcases h.kinds.2 with ⟨_,h1⟩|⟨g,cap,cur,hv1,_⟩
 ·omega
 ·rcases hv.2 with ⟨_,h1⟩|⟨g2,cap2,cur2,hv2,_⟩
  ·omega
  ·exact⟨g,g2,cap,cap2,by rw[hv1,hl],hv2⟩
theorem vw4 {base:Nat} {w:World} {gk gb n kc bc:Nat} {ks:List Nat} {bs:List (List UInt8)} (h:Bods base w (.slice (some ⟨gk,0,none⟩) n kc) (.slice (some ⟨gb,0,none⟩) n bc) ks bs) (hl:ks.length=bs.length) {k:Nat} (hk:k < bs.length):
  ∃x A M c,ks[k]?=some x∧w.cell? ⟨gk,k,none⟩=some (.int .i64 (x:Int))∧w.cell? ⟨gb,k,none⟩=some (.slice A M c)∧M≤c∧Row w.heap.size w A M 1 (bts bs[k]):=by
 obtain⟨vs,hv,hx⟩:=h.row;obtain⟨A,M,c,e,h1,h2,h3,_⟩:=hx k hk;have hki:=h.kinds;have hxk:ks[k]?=some ks[k]:=List.getElem?_eq_getElem (by omega);have c1:=hki.cells (g:=gk) rfl k (.int .i64 ((ks[k]:Nat):Int)) (by simp[i64v,hxk]);have c2:=hv.cells (g:=gb) rfl k _ e;rw[mx2]at c1 c2;exact⟨ks[k],A,M,c,hxk,c1,c2,h1,h3⟩
theorem lt_of_cell {w:World} {b o:Nat} {v:Value} (h:w.cell? ⟨b,o,none⟩=some v):b < w.heap.size:=by
 by_cases hlt:b < w.heap.size
 ·exact hlt
 ·simp[World.cell?,hlt]at h
end
section
open Go
namespace Sd
variable {d:Sd}
theorem nk1 (d:Sd) (s:List UInt8):(d.create s).1.load≤d.load+2:=by
 have h:=aj1 d [s];obtain⟨e1,e2,e3,e4,_⟩:=iy d [s];unfold create
 dsimp only
 split
 ·omega
 ·split
  ·exact Nat.le_trans (Nat.le_of_eq h) (Nat.le_add_right _ _)
  ·split
   ·exact Nat.le_trans (Nat.le_of_eq h) (Nat.le_add_right _ _)
   ·simp only[load,List.length_append,List.length_singleton]
    omega
theorem yq1 (d:Sd) (s b:List UInt8):(d.append s b).1.load=d.load:=by
 have h:=aj1 d [s];obtain⟨e1,e2,e3,e4,_⟩:=iy d [s];unfold append
 dsimp only
 split
 ·exact h
 ·split
  ·exact h
  ·split
   ·exact h
   ·split
    ·exact h
    ·simp[load,e4]
theorem jy1 (d:Sd) (s:List UInt8):(d.sync s).1.load=d.load:=by
 have h:=aj1 d [s];obtain⟨e1,e2,e3,e4,_⟩:=iy d [s];unfold sync
 dsimp only
 split
 ·exact h
 ·split
  ·exact h
  ·simp[load,e4]
theorem yk1 (d:Sd) (a b:List UInt8):(d.rename a b).1.load≤d.load+1:=by
 have h:=aj1 d [a,b];obtain⟨e1,e2,e3,e4,_⟩:=iy d [a,b];unfold rename
 dsimp only
 split
 ·omega
 ·split
  ·exact Nat.le_trans (Nat.le_of_eq h) (Nat.le_add_right _ _)
  ·split
   ·exact Nat.le_trans (Nat.le_of_eq h) (Nat.le_add_right _ _)
   ·simp only[load,List.length_append,List.length_singleton,e3]
    omega
theorem dj1 (d:Sd) (s:List UInt8):(d.remove s).1.load≤d.load+1:=by
 have h:=aj1 d [s];obtain⟨e1,e2,e3,e4,_⟩:=iy d [s];unfold remove
 dsimp only
 split
 ·omega
 ·split
  ·exact Nat.le_trans (Nat.le_of_eq h) (Nat.le_add_right _ _)
  ·simp only[load,List.length_append,List.length_singleton,e3]
   omega
theorem ex1 (d:Sd):(d.ax).1.load≤d.load:=by
 have h:=aj1 d [];obtain⟨e1,e2,e3,e4,_⟩:=iy d [];unfold ax
 dsimp only
 split
 ·omega
 ·simp[load,e3]
def write (d:Sd) (s b:List UInt8):Sd×Nat:=
 if (d.create s).2≠0 then d.create s
 else if ((d.create s).1.append s b).2≠0 then (d.create s).1.append s b
 else ((d.create s).1.append s b).1.sync s
theorem Wf.write {d:Sd} (h:d.Wf) (s b:List UInt8):(d.write s b).1.Wf:=by
 unfold Sd.write;split
 ·exact h.create s
 ·split
  ·exact(h.create s).append s b
  ·exact((h.create s).append s b).sync s
theorem lk1 (d:Sd) (s b:List UInt8):(d.write s b).1.load≤d.load+2:=by
 have h1:=nk1 d s;have h2:=yq1 (d.create s).1 s b;have h3:=jy1 ((d.create s).1.append s b).1 s;unfold write;split
 ·omega
 ·split
  ·omega
  ·omega
end Sd
structure Ms where
 name:List UInt8
 v:Bv
 count:Nat
 broken:Bool
namespace Mn
def greatest (l:List (List UInt8)) (kind:List UInt8):Int:=l.foldl (fun m s=>max m ((number s kind).getD 0)) 0
theorem ww2 {s kind:List UInt8} {v:Int} (h:number s kind=some v) (hs:s≠[]):1≤v∧v≤1073741824:=by
 have h1:=yj2 h
 by_cases hf:(fits v&&isKind kind)=true
 ·simp[fits]at hf;omega
 ·rw[name,if_neg hf]at h1;exact absurd h1.symm hs
end Mn
namespace Mw
open Mn
def kCur:List UInt8:=[99,117,114,114,101,110,116]
def gq:List UInt8:=[99,117,114,114,101,110,116,46,116,109,112]
def headB (n:Int):List UInt8:=Fr.put 8 (Pn.put n.toNat)
def sweep (nm:List UInt8):List (List UInt8)→Sd→Sd
 |[],d=>d
 |o::r,d=>sweep nm r (if (number o kMan).isSome&&!(o==nm) then (d.remove o).1 else d)
end Mw
end
section
open Go
structure Gs where
 name:List UInt8
 v:Vw
 count:Nat
 broken:Bool
namespace Gw
open Mn
open Mw (kCur gq headB sweep)
def fin (d:Sd) (M:Gs) (nm:List UInt8):Sd×Gs×Nat:=
 if (d.ax).2≠0 then ((d.ax).1,{ M with name:=nm,count:=1,broken:=true },(d.ax).2)
 else (sweep nm (d.ax).1.list (d.ax).1,{ M with name:=nm,count:=1 },0)
def ren (d:Sd) (M:Gs) (nm:List UInt8):Sd×Gs×Nat:=
 if (d.rename gq kCur).2≠0 then ((d.rename gq kCur).1,M,(d.rename gq kCur).2) else fin (d.rename gq kCur).1 M nm
def sd1 (d:Sd) (M:Gs) (nm:List UInt8):Sd×Gs×Nat:=
 if (d.ax).2≠0 then ((d.ax).1,M,(d.ax).2) else ren (d.ax).1 M nm
def hd (d:Sd) (M:Gs) (nm:List UInt8):Sd×Gs×Nat:=
 if (d.write gq (headB ((number nm kMan).getD 0))).2≠0 then ((d.write gq (headB ((number nm kMan).getD 0))).1,M,(d.write gq (headB ((number nm kMan).getD 0))).2)
 else sd1 (d.write gq (headB ((number nm kMan).getD 0))).1 M nm
def tmp (d:Sd) (M:Gs) (nm:List UInt8):Sd×Gs×Nat:=
 if (d.read gq).2=0 then
  if (d.remove gq).2≠0 then ((d.remove gq).1,M,(d.remove gq).2) else hd (d.remove gq).1 M nm
 else hd d M nm
def rewrite (d:Sd) (M:Gs) (nm:List UInt8):Sd×Gs×Nat:=
 if (d.write nm M.v.whole.rec_).2≠0 then ((d.write nm M.v.whole.rec_).1,M,(d.write nm M.v.whole.rec_).2)
 else tmp (d.write nm M.v.whole.rec_).1 M nm
def put (d:Sd) (M:Gs) (e:Ed) (v:Vw):Sd×Gs×Nat:=
 if (d.append M.name e.rec_).2≠0 then ((d.append M.name e.rec_).1,M,(d.append M.name e.rec_).2)
 else if ((d.append M.name e.rec_).1.sync M.name).2≠0 then (((d.append M.name e.rec_).1.sync M.name).1,{ M with count:=M.count+1,v:=v,broken:=true },((d.append M.name e.rec_).1.sync M.name).2)
 else (((d.append M.name e.rec_).1.sync M.name).1,{ M with count:=M.count+1,v:=v },0)
def save (d:Sd) (M:Gs) (e:Ed):Sd×Gs×Nat:=
 if M.broken=true then (d,M,14)
 else if e.may=false then (d,M,1)
 else match M.v.app e with
  |none=>(d,M,1)
  |some v=>put d M e v
def rewriteM (d:Sd) (M:Gs):Sd×Gs×Nat:=
 if M.broken=true then (d,M,14)
 else if 1073741824 < greatest d.list kMan+1 then (d,M,65)
 else rewrite d M (name kMan (greatest d.list kMan+1))
end Gw
theorem Vw.kj1 {v:Vw} (h:v.ok=true):v.whole.may=true:=by
 simp only[Vw.ok,isNum,Bool.and_eq_true,decide_eq_true_eq]at h;obtain⟨⟨⟨⟨⟨h1,h2⟩,h3⟩,h4⟩,h5⟩,_⟩:=h;have e1:decide (0≤v.log)=true:=by simp;omega
 have e2:decide (v.log≤1073741824)=true:=by simp;omega
 simp[Ed.may,Vw.whole,h3,h4,h5];exact⟨e1,e2⟩
theorem Ed.rq1 {e:Ed} (h:e.may=true):e.rec_.length≤2012:=by
 have:=Ed.cz1 e h;rw[Ed.rec_,Fr.qw];omega
end
end Go.Proofs.YthjdpplgfdihoaaGreatDoor
