/- Some of the texts. No conditions. -/
import Derived.Test.YtkdbagdiplpcfaaGreatDoorBunAG
import Derived.Test.YtkdbagdiplpcfaaGreatDoorBunAJ
import Derived.Test.YtkdbagdiplpcfaaGreatDoorBunAH
import Derived.RangeFuncNested
import Derived.Maps.OwnIn

set_option linter.unusedSimpArgs false
set_option linter.unusedVariables false
set_option maxRecDepth 100000
set_option maxHeartbeats 16000000
namespace Go.Proofs.YtkdbagdiplpcfaaGreatDoor
open Go.Proofs.Tryz Go Go.RowKit Go.Lib Go.Shelf
end Go.Proofs.YtkdbagdiplpcfaaGreatDoor
namespace Go.Proofs.YtkdbagdiplpcfaaGreatDoor
open Go.Proofs.Tryz Go Go.RowKit Go.Lib Go.Shelf
end Go.Proofs.YtkdbagdiplpcfaaGreatDoor
namespace Go.Proofs
open Go.Proofs.Tryz Go Go.RowKit Go.Lib Go.Shelf
def Tryz.growItem_ren:Go.Shelf.Ren:=⟨fun|4=>92|n=>n,fun|22=>26|25=>49|3=>3|4=>4|9=>9|20=>20|0=>0|n=>n,fun|n=>n⟩
theorem Tryz.growItem:Go.Proofs.Lays8.n4 prog Tryz.growItem_ren:=by repeat' first|kernel_rfl|exact x_ func92|intro _|constructor
end Go.Proofs
namespace Go.Proofs.YtkdbagdiplpcfaaGreatDoor
open Go.Proofs.Tryz Go Go.RowKit Go.Lib Go.Shelf
def oj1 (B:Nat) (w:World) (P:Option Addr) (n:Nat) (ls:List (List It)):Prop:=
 ∃vs,Row B w P n 1 vs/\ls.length=n/\∀i (h:i < ls.length),∃A k c,vs[i]?=some (.slice A k c)/\k<=c/\c<=maxLen/\Row B w A k 5 (itc ls[i])
theorem oj1.at_ {B:Nat} {w:World} {P:Option Addr} {n:Nat} {ls:List (List It)} (h:oj1 B w P n ls) {i:Nat} (hi:i < n):
  ∃a A k c,∃E:i < ls.length,P=some a/\a.block < B/\w.cell? (a.add i)=some (.slice A k c)/\k<=c/\c<=maxLen/\Row B w A k 5 (itc ls[i]):=by
 obtain⟨vs,H,E,I⟩:=h;obtain⟨a,v,e,b,C,J⟩:=H.at1 hi;obtain⟨A,k,c,h1,h2,h3,h4⟩:=I i o_;rw[h1]at C;injection C with C;exact⟨a,A,k,c,o_,e,b,by rw[J,<-C],h2,h3,h4⟩
theorem oj1.below {B:Nat} {w w':World} {P:Option Addr} {n:Nat} {ls:List (List It)} (h:oj1 B w P n ls) (C:Below B w w'):oj1 B w' P n ls:=by
 obtain⟨vs,E,H,I⟩:=h;exact⟨vs,E.below C,H,fun i hi=>let ⟨A,k,c,h1,h2,h3,h4⟩:=I i hi;⟨A,k,c,h1,h2,h3,h4.below C⟩⟩
theorem oj1.up {B B':Nat} {w:World} {P:Option Addr} {n:Nat} {ls:List (List It)} (h:oj1 B w P n ls) (C:B<=B'):oj1 B' w P n ls:=by
 obtain⟨vs,E,H,I⟩:=h;exact⟨vs,E.up C,H,fun i hi=>let ⟨A,k,c,h1,h2,h3,h4⟩:=I i hi;⟨A,k,c,h1,h2,h3,h4.up C⟩⟩
theorem oj1.len {B:Nat} {w:World} {P:Option Addr} {n:Nat} {ls:List (List It)} (h:oj1 B w P n ls):ls.length=n:=by
 obtain⟨_,_,C,_⟩:=h;exact C
theorem nv2 {ls:List (List It)} {k:Nat} (C:k < ls.length):(ls.take (k+1)).flatten=(ls.take k).flatten++ls[k]:=by
 have h:=(aS_ C).symm;rw[h,bv_];simp
theorem uq3 {ls:List (List It)} (k:Nat):(ls.take k).flatten.length<=ls.flatten.length:=by
 conv=>rhs;rw[<-al_ k ls,bv_,d_]
 omega
theorem lx4 (n:Nat) (Z:n<=1000000) (w:World):
  Calls prog 92 #[.slice none 0 0,.int .i64 (n:Int)] w fun e w'=>∃A c,e=.returned (.slice A 0 c)/\w'.ownsRow w.heap.size 49 5 (.slice A 0 c) 0 []/\Below w.heap.size w w':=by
 obtain⟨O,C,E,Q,H⟩:=info_parts qw
 rcases ao_ n with J|J
 ·subst J
  have h:=Any8.slices_Grow_room Tryz.growItem none 0 0 0 w l_ o_ o_ o_;refine Calls.mono h ?_;rintro e w' ⟨rfl,rfl⟩;exact⟨none,0,rfl,E_ _ _ _ _,Below.refl _ _⟩
 ·have h:=Any8.slices_Grow_grow Tryz.growItem O (.agg #[.int .i64 0,.int .i64 0,.int .u64 0,.int .u64 0,.int .i64 0]) C E o_ none 0 0 n [] w l_ o_ (by rw[H];omega) o_ s_ (fun _=>rfl) (fun a h=>by cases h)
  refine Calls.mono h ?_;rintro e w' ⟨rfl,rfl⟩;have hg:=grownCap_ge w (0+n) 0 49;have I:=grownCap_le_maxLen w (0+n) 0 49 (by unfold maxLen;omega);refine⟨_,_,rfl,⟨by simp,.inr ⟨w.heap.size,_,_,rfl,y_ _,heap_alloc_new w.drew _,w_ _,I,?_,by simp⟩⟩,((Below.refl w.heap.size w).drew).alloc l_ _⟩;change _=grownCap w (0+n) 0 49 *5;have U:(Value.agg #[.int .i64 0,.int .i64 0,.int .u64 0,.int .u64 0,.int .i64 0]).cells.size=5:=rfl;simp only[b2_,Builtin.zeroCells,Array.size_map,Array.size_range,U];change 0+(0+n - 0)*5+(grownCap w (0+n) 0 49 - (0+n))*5=_;omega
theorem rv1 (P:Option Addr) (n c:Nat) (ls:List (List It)) (w:World) (hn:n<=1000000) (E:ls.flatten.length<=1000000) (hr:oj1 w.heap.size w P n ls):
  Calls prog 32 #[.slice P n c] w fun e w'=>∃A' J,e=.returned (.slice A' ls.flatten.length J)/\
   w'.ownsRow w.heap.size 49 5 (.slice A' ls.flatten.length J) ls.flatten.length (itc ls.flatten)/\ls.flatten.length<=J/\J<=maxLen/\Below w.heap.size w w':=by
 obtain⟨i0,a7,a8,a9,a'⟩:=info_parts qw;have c9:ls.length=n:=by obtain⟨_,_,h,_⟩:=hr;exact h
 obtain⟨F,hF⟩:=n_ ls.flatten.length;have HF:=H_ hF;have HB:=H_ E;rw[<-hF]at E ⊢;clear hF;go_enter func32,ntmps32;go_wp2
 go_loop [3,11] (fun x i=>∃k:Nat,k<=n/\i=.int .i64 (k:Int)/\x=.int .i64 (((ls.take k).flatten.length:Nat):Int)) (fun _ i=>n - (intOf i).toNat)
 case atStart=>exact⟨0,w_ _,rfl,rfl⟩
 case round=>
  obtain⟨k,hk,rfl,rfl⟩:=hrel
  by_cases b0:k < n
  ·obtain⟨a,A,O,J,hl,rfl,_,hc,b2,b3,Q⟩:=hr.at_ b0
   have ht:=nv2 hl;have H:=uq3 (ls:=ls) (k+1);have I:(ls.take (k+1)).flatten.length=(ls.take k).flatten.length+O:=by rw[ht,d_,Q.qj]
   have b5:(ls.take k).flatten.length+O<=1000000:=by
    have h:ls.flatten.length<=1000000:=HB;omega
   have E1:=H_ I;clear ht H I;generalize (ls.take k).flatten.length=L at *;have d5:((L:Int)+(O:Int) < 0)=False:=by simp;omega
   go_wp2
   go_round
   case rel=>exact⟨k+1,o_,by go_num,by have I:(ls.take (k+1)).flatten.length=L+O:=E1;rw[I];go_num⟩
   case measure=>simp[intOf];omega
  ·obtain rfl:k=n:=o_
   have I:(ls.take k).flatten.length=F:=by
    have h:F=ls.flatten.length:=HF;rw[g_ o_,h]
   rw[I];clear I;go_wp2_with fail;refine(lx4 F E w).mono ?_;rintro e w1 ⟨A1,c1,rfl,b6,H⟩;go_wp2
   go_loopw [6,27] (fun o i wr=>∃(j:Nat) (A':Option Addr) (M J:Nat),j<=k/\o=.slice A' M J/\i=.int .i64 (j:Int)/\wr.ownsRow w.heap.size 49 5 (.slice A' M J) M (itc (ls.take j).flatten)/\Below w.heap.size w wr) (fun _ i _=>k - (intOf i).toNat)
   case atStart=>exact⟨0,A1,0,c1,w_ _,rfl,rfl,by simpa [itc] using b6,H⟩
   case round=>
    obtain⟨j,A',M,J,hj,rfl,rfl,C,hb⟩:=hrel;have a0:M=(ls.take j).flatten.length:=by
     have h1:=C.1;rw[jk]at h1;omega
    by_cases b7:j < k
    ·obtain⟨a,A,O,c2,hl,rfl,d7,hc,b2,b3,Q⟩:=(hr.below hb).at_ b7
     have ht:=nv2 hl;have H:=uq3 (ls:=ls) (j+1);have b5:M+O<=1000000:=by
      have h:ls.flatten.length<=1000000:=HB;have I:(ls.take (j+1)).flatten.length=(ls.take j).flatten.length+O:=by rw[ht,d_,Q.qj]
      omega
     have U:itc (ls.take j).flatten++itc ls[j]=itc (ls.take (j+1)).flatten:=by rw[ht,lq]
     have b8:=uj ls[j];generalize itc ls[j]=X at *;generalize hY:itc (ls.take (j+1)).flatten=Y at *;generalize itc (ls.take j).flatten=Z at *;have HN:=H_ U;have HY:=H_ hY;clear hY a0 ht H U;go_wp2_with (at_builtin;refine iy ?_);refine bz (iq rfl (.tmp 31) (.tmp 32) _ rfl w.heap.size 49 i0 _ 5 40 underlying26 a7 a8 a9 a' rfl o_ w hb hb.size _ M Z rfl C w.heap.size A O c2 X rfl Q b8 (M+O) Y rfl HN (by unfold maxLen;omega) o_ ?_);intro A3 c3 w3 a1 b9 _ e0 e2;go_wp2;go_roundw
     case rel=>exact⟨j+1,A3,M+O,c3,o_,rfl,by go_num,by have hY:itc (ls.take (j+1)).flatten=Y:=HY;rw[hY];exact a1,b9⟩
     case measure=>simp[intOf];omega
    ·obtain rfl:j=k:=o_
     have I:ls.take j=ls:=g_ o_;rw[I]at C a0;have h:F=ls.flatten.length:=HF;have b':M=F:=o_
     subst b';obtain⟨A4,c4,e4,h5,h6,_⟩:=gz C;injection e4 with e5 e6 e7;subst e5;subst e7;clear a0 h I;go_wp2;go_ret;exact⟨A',J,rfl,C,h5,h6,hb⟩
end Go.Proofs.YtkdbagdiplpcfaaGreatDoor
namespace Go.Proofs.YtkdbagdiplpcfaaGreatDoor
open Go.Proofs.Tryz Go Go.RowKit Go.Lib Go.Shelf
section
namespace Pn
theorem rw2:∀(l:List UInt8) (i acc:Nat),(takeF i acc l).2.2=0->(takeF i acc l).2.1<=i+l.length
 |[],i,acc,h=>by simp[takeF]at h
 |c::r,i,acc,h=>by
  unfold takeF at h ⊢;split
  ·rw[if_pos (by assumption)]at h;simp at h
  ·rw[if_neg (by assumption)]at h
   split
   ·simp
   ·rw[if_neg (by assumption)]at h
    have:=rw2 r (i+1) _ h;simp only[q_];omega
theorem take_size {l:List UInt8} (h:(take l).2.2=0):(take l).2.1<=l.length:=by
 have:=rw2 l 0 0 h;unfold take;omega
theorem rx3:∀(l:List UInt8) (i acc:Nat),i<=9->acc < 2 ^ (7 *i)->(takeF i acc l).1 < 2 ^ 64
 |[],i,acc,_,_=>by simp[takeF]
 |c::r,i,acc,hi,U=>by
  unfold takeF;split
  ·simp
  ·rename_i J
   have E:i=9->c.toNat<=1:=fun e=>by
    rcases ah_ 1 c.toNat with h|h
    ·exact absurd (.inl ⟨e,h⟩) J
    ·exact h
   have H:2 ^ (7 *i)*128=2 ^ (7 *(i+1)):=by rw[Nat.mul_add,cA_]
   split
   ·rename_i O
    show acc+c.toNat *2 ^ (7 *i) < 2 ^ 64
    rcases (by omega:i=9\/i<=8) with rfl|C
    ·have:=E rfl
     have I:c.toNat *2 ^ (7 *9)<=1 *2 ^ (7 *9):=aU_ _ this;omega
    ·have I:c.toNat *2 ^ (7 *i)<=127 *2 ^ (7 *i):=aU_ _ o_
     have Z:2 ^ (7 *(i+1))<=2 ^ 63:=bG_ o_ o_;omega
   ·rename_i O
    have C:i<=8:=by
     rcases (by omega:i=9\/i<=8) with rfl|C
     ·have:=E rfl;omega
     ·exact C
    refine rx3 r (i+1) _ o_ ?_;have Q:=c.toNat_lt;have I:(c.toNat - 128)*2 ^ (7 *i)<=127 *2 ^ (7 *i):=aU_ _ o_;omega
theorem mv4 (l:List UInt8):(take l).1 < 2 ^ 64:=rx3 l 0 0 o_ s_
end Pn
theorem bv2 {B N:Nat} {w:World} {A:Option Addr} {l:List UInt8} (E:Row B w A N 1 (bts l)) {s:Nat} (hs:s<=N) {A':Option Addr} (H:s < N->A'=A.map (·.add s)):Row B w A' (N - s) 1 (bts (l.drop s)):=by
 have h:=E.cut (A':=A') hs (y_ N) (fun C=>by rw[bb_];exact H C);rw[bb_,bb_,<-wj2,<-lx1]at h
 rwa [g_ (by have:=E.zk;rw[I_];omega)]at h
structure Dm (w:World) (X:Dw) (S:Sd):Prop where
 dk:DK w X S
 wf:S.Wf
 env:Env w
 base:∀g∈X.foot,NG<=g
theorem Dm.below {w w':World} {X:Dw} {S:Sd} (h:Dm w X S) (C:Below w.heap.size w w'):Dm w' X S:=⟨h.dk.below C,h.wf,h.env.below C,h.base⟩
theorem Dm.chg {w w':World} {X:Dw} {S:Sd} {G:List Nat} (h:Dm w X S) (c:Chg G w w') (E:∀g∈G,g∉X.foot/\NG<=g):Dm w' X S:=⟨h.dk.chg c (fun g C=>(E g C).1),h.wf,h.env.chg c (fun g C=>(E g C).2),h.base⟩
def UpdM (X:Dw) (w w':World) (S':Sd):Prop:=∃X',X'.d=X.d/\Dm w' X' S'/\Chg X.foot w w'/\∀g∈X'.foot,g∈X.foot\/w.heap.size<=g
theorem Dm.upd {w w':World} {X:Dw} {S S':Sd} (h:Dm w X S) (H:S'.Wf) (I:Upd X w w' S'):UpdM X w w' S':=by
 obtain⟨X',e,hd,C,E⟩:=I;have O:=h.env.base;exact⟨X',e,⟨hd,H,h.env.chg C h.base,fun g J=>by
  rcases E g J with h1|h1
  ·exact h.base g h1
  ·omega⟩,C,E⟩
theorem UpdM.trans {w H I:World} {X X1:Dw} {S2:Sd} (e:X1.d=X.d) (c:Chg X.foot w H) (J:∀g∈X1.foot,g∈X.foot\/w.heap.size<=g) (h2:UpdM X1 H I S2):UpdM X w I S2:=by
 obtain⟨X',O,h,Q,C⟩:=h2;refine⟨X',O.trans e,h,c.trans Q (fun g E=>J g E),fun g E=>?_⟩
 rcases C g E with h3|h3
 ·exact J g h3
 ·exact .inr (j_ c.size h3)
theorem pk1 {S:Sd} (C:S.Wf):∀s∈S.list,Sd.named s=true:=by
 intro s hs;unfold Sd.list at hs;split at hs
 ·cases hs
 ·rw[List.mem_mergeSort]at hs
  obtain⟨p,E,rfl⟩:=W_.1 hs;exact C.gnames p E
theorem vk1 {s:List UInt8} (h:Sd.named s=true):1<=s.length/\s.length<=16:=by
 simp only[Sd.named,G_,decide_eq_true_eq]at h;exact h.1
theorem wk1 {S:Sd} (C:S.Wf):S.list.length<=64:=by
 unfold Sd.list;split
 ·simp
 ·rw[List.length_mergeSort,F_];exact C.most
theorem Row.enc {B n:Nat} {w:World} {A:Option Addr} {C:List (List UInt8)} (h:Row B w A n 1 (C.map Go.Proofs.encStr)) {k:Nat} (I:k < n):∃a,∃H:k < C.length,A=some a/\a.block < B/\w.cell? (a.add k)=some (.string (str C[k])):=by
 obtain⟨a,v,e,J,E,O⟩:=h.at1 I;have H:k < C.length:=by
  have:=h.len;simp at this;omega
 rw[br_,h_ H]at E;injection E with E;subst E;exact⟨a,H,e,J,O⟩
theorem fx3 (X:Dw) (S:Sd) (k:ByteArray) (hk:k.size<=1000) (w:World) (h:Dm w X S):
  Calls prog 130 #[.pointer (some ⟨X.d,0,none⟩),.string k] w fun e w'=>e=.returned (.int .i64 (Mn.greatest S.list k.data.toList))/\Below w.heap.size w w':=by
 have hl:=aw3 X S h.wf w h.dk;have O:=pk1 h.wf;have Q:=wk1 h.wf;obtain⟨L,hL⟩:=n_ S.list;rw[<-hL]at hl O Q ⊢;clear hL;have a6:=H_ O;clear O;obtain⟨R,hR⟩:=n_ (Mn.greatest L k.data.toList);rw[<-hR];have HR:=H_ hR;clear hR;go_enter func130,ntmps130;go_wp2_with fail;refine hl.mono ?_;rintro e w1 ⟨A,c,rfl,J,a8⟩;have hrow:=Row.own J;have b3:L.length<=c:=by
  obtain⟨A',c',e,h1,_⟩:=gz J;injection e with _ e2 e3;omega
 go_wp2
 go_loopw [5,13] (fun m i wr=>∃j:Nat,j<=L.length/\i=.int .i64 (j:Int)/\m=.int .i64 (Mn.greatest (L.take j) k.data.toList)/\Below w.heap.size w wr/\Below w1.heap.size w1 wr) (fun _ i _=>L.length - (intOf i).toNat)
 case atStart=>exact⟨0,w_ _,rfl,rfl,a8,Below.refl _ _⟩
 case round=>
  obtain⟨j,hj,rfl,rfl,I,H⟩:=hrel
  by_cases a9:j < L.length
  ·have C:=(hrow.below H)
   obtain⟨a,U,rfl,_,Z⟩:=C.enc a9;have a':=a6.out _ (u_ U);have b7:=vk1 a';have HT:=H_ (Mn.xz2 U k.data.toList);have E:=px1 (str L[j]) k (by rw[ny];omega) hk wr (h.env.below I);rw[oz]at E;generalize L[j]=s at *;go_wp2_with fail;refine E.mono ?_;rintro e w2 ⟨rfl,a0⟩;have a1:=I.trans (a0.mono I.size);have a2:=H.trans (a0.mono H.size)
   cases a4:Mn.number s k.data.toList with
   |none=>
    rw[a4]at HT;unfold numV;generalize hG:Mn.greatest (L.take j) k.data.toList=G at *;clear E Z C;go_wp2;go_roundw
    case rel=>exact⟨j+1,o_,by go_num,by rw[HT.out];simp,a1,a2⟩
    case measure=>simp[intOf];omega
   |some v=>
    rw[a4]at HT;unfold numV;generalize hG:Mn.greatest (L.take j) k.data.toList=G at *;clear E Z C;go_wp2;go_roundw
    case rel=>exact⟨j+1,o_,by go_num,by rw[HT.out];simp,a1,a2⟩
    case measure=>simp[intOf];omega
  ·have e1:L.take j=L:=g_ o_
   rw[e1,<-show R=_ from HR.out];go_wp2;go_ret;exact⟨rfl,I⟩
theorem write_any (X:Dw) (S:Sd) (s:ByteArray) (hs:s.size<=maxLen) (A:Option Addr) (m c:Nat) (b:List UInt8) (hm:m<=1099511627776) (hl:S.load<=1099511627776) (w:World) (h:Dm w X S) (hr:Row w.heap.size w A m 1 (bts b)) (hA:∀a,A=some a->a.block∉X.foot):
  Calls prog 196 #[.pointer (some ⟨X.d,0,none⟩),.string s,.slice A m c] w fun e w'=>e=.returned (.int .i64 ((S.write s.data.toList b).2:Int))/\UpdM X w w' (S.write s.data.toList b).1:=by
 have a7:=py2 X S s hs h.wf hl w h.dk;have a8:=h.wf.create s.data.toList;have H:=fun U (hu:Upd X w U (S.create s.data.toList).1)=>h.upd a8 hu;have E:S.write s.data.toList b=if (S.create s.data.toList).2≠0 then S.create s.data.toList else if ((S.create s.data.toList).1.append s.data.toList b).2≠0 then (S.create s.data.toList).1.append s.data.toList b
  else ((S.create s.data.toList).1.append s.data.toList b).1.sync s.data.toList:=rfl
 generalize S.create s.data.toList=R1 at *;obtain⟨S1,e1⟩:=R1;simp only at *
 by_cases h0:e1=0
 ·subst h0
  rw[if_neg s_]at E;have a5:=a8.append s.data.toList b;have a6:=fun X1 U (h1:DK U X1 S1) Z a0=>zq1 X1 S1 s hs A m c b hm a8 U h1 Z a0;generalize S1.append s.data.toList b=R2 at *;obtain⟨S2,e2⟩:=R2;simp only at *
  by_cases h1:e2=0
  ·subst h1
   rw[if_neg s_]at E;have b8:=a5.sync s.data.toList;have a':=fun X1 U (h1:DK U X1 S2)=>sync_any X1 S2 s hs a5 U h1;generalize S2.sync s.data.toList=R3 at *;obtain⟨S3,e3⟩:=R3;simp only at *;rw[E];clear E;have HR:=H_ hr;have HA:=H_ hA;clear hr hA;go_enter func196,ntmps196;go_wp2_with fail;refine a7.mono ?_;rintro e U ⟨rfl,J⟩;obtain⟨X1,O,a1,a2,a9⟩:=H U J;have Z:=Row.vx2 HR.out a2 l_ HA.out;have a0:∀a,A=some a->a.block≠X1.d:=fun a ha=>by rw[O];exact fun e=>HA.out a ha (by rw[e];exact aj.2 (.inl rfl))
   have C:=a6 X1 U a1.dk Z a0;rw[O]at C;have H2:=H_ C;clear C a0 a6 H J Z;go_wp2_with fail;refine H2.out.mono ?_;rintro e w2 ⟨rfl,a4⟩;obtain⟨X2,b1,b2,c',d0⟩:=a1.upd a5 a4;have I:=a' X2 w2 b2.dk;rw[b1,O]at I;have H3:=H_ I;clear I a' a4;go_wp2_with fail;refine H3.out.mono ?_;rintro e w3 ⟨rfl,b3⟩;have Q:=UpdM.trans O a2 a9 (UpdM.trans b1 c' d0 (b2.upd b8 b3));clear b3;go_wp2;go_ret;exact⟨rfl,Q⟩
  ·have d1:=neq0 h1
   rw[if_pos h1]at E;rw[E];clear E;have HR:=H_ hr;have HA:=H_ hA;clear hr hA h1;go_enter func196,ntmps196;go_wp2_with fail;refine a7.mono ?_;rintro e U ⟨rfl,J⟩;obtain⟨X1,O,a1,a2,a9⟩:=H U J;have Z:=Row.vx2 HR.out a2 l_ HA.out;have a0:∀a,A=some a->a.block≠X1.d:=fun a ha=>by rw[O];exact fun e=>HA.out a ha (by rw[e];exact aj.2 (.inl rfl))
   have C:=a6 X1 U a1.dk Z a0;rw[O]at C;have H2:=H_ C;clear C a0 a6 H J Z;go_wp2_with fail;refine H2.out.mono ?_;rintro e w2 ⟨rfl,a4⟩;have Q:=UpdM.trans O a2 a9 (a1.upd a5 a4);clear a4;go_wp2;go_ret;exact⟨rfl,Q⟩
 ·have d1:=neq0 h0
  rw[if_pos h0]at E;rw[E];clear E h0;go_enter func196,ntmps196;go_wp2_with fail;refine a7.mono ?_;rintro e U ⟨rfl,J⟩;have Q:=H U J;clear J H;go_wp2;go_ret;exact⟨rfl,Q⟩
attribute [local go_sem] Oper.semAt_some
abbrev Ck (m len:Nat):Type:={ x:Nat // x *m < len }
def Ck.len {m len:Nat} (x:Ck m len):Nat:=min m (len - x.1 *m)
def Ck.val (p:Addr) {m len:Nat} (x:Ck m len):Value:=.slice (some (p.add (x.1 *m *5))) x.len x.len
def Ck.of (l:List It) {m len:Nat} (x:Ck m len):List It:=(l.drop (x.1 *m)).take m
theorem eq5 {m len k f:Nat} {L:List It} {pre:List (Ck m len)} (J:1<=m) (O:L.length=len) (I:k *m < len) (h1:(L.drop (k *m)).length<=f) (h2:pre.map (Ck.of L)++Tb.cut m f (L.drop (k *m))=Tb.cut m len L):
  ∃C,(L.drop ((k+1)*m)).length<=C/\(pre++[(⟨k,I⟩:Ck m len)]).map (Ck.of L)++Tb.cut m C (L.drop ((k+1)*m))=Tb.cut m len L:=by
 have E:(k+1)*m=k *m+m:=cv_ k m;rw[I_]at h1;obtain⟨C,rfl⟩:∃C,f=C+1:=⟨f - 1,o_⟩;refine⟨C,by rw[I_,E];omega,?_⟩;have H:L.drop (k *m)≠[]:=fun e=>by
  have:=congrArg List.length e;rw[I_]at this;simp at this;omega
 rw[<-h2,Tb.cut,if_neg H,aZ_,E,am_,K_];rfl
theorem zq2 (F:Fence) (n:Nat) (h7:F.fn 166) (a9:F.round=none) (hn:1<=n) (l U Z:Nat) (Kp:World->World->Prop) (a0:∀W E,Kp W E->E.cell? ⟨U,0,none⟩=W.cell? ⟨U,0,none⟩/\E.cell? ⟨Z,0,none⟩=W.cell? ⟨Z,0,none⟩) (p:Addr) (len cap m:Nat) (L:List It) (hL:L.length=len) (hm:1<=m) (e7:m<=1000) (d3:len<=100000) (d4:len<=cap) (J Jx:List (Ck m len)->World->Prop)
  (a':∀pre W,J pre W->J pre W.drew) (hY:∀pre x W,J pre W->pre.length *m < len->x.1=pre.length->YieldAt F (n - 1) prog l #[Ck.val p x] W fun e E=>
   (e=.returned (.bool true)/\J (pre++[x]) E/\Kp W E)\/(e=.returned (.bool false)/\Jx (pre++[x]) E))
  (W:World) (b0:W.cell? ⟨U,0,none⟩=some (.slice (some p) len cap)) (b1:W.cell? ⟨Z,0,none⟩=some (.int .i64 (m:Int))) (h0:J [] W):
  CallsIn F n prog 166 #[.func (.yield l) #[] #[],.pointer (some ⟨U,0,none⟩),.pointer (some ⟨Z,0,none⟩)] W fun e E=>(∃v,e=.returned v)/\
   ((∃ys,ys.map (Ck.of L)=Tb.cut m len L/\J ys E)\/(∃pre,Jx pre E)):=by
 refine callsIn_of_wp func166 rfl h7 ?_ a9;simp only[ntmps166,aA_,q_,V_,Nat.reduceAdd,Nat.reduceSub,bd_,be_,bs_,bi_,C_,T_]
 gi_wp2
 gi_loopw [4] (fun i wr=>∃(k f:Nat) (pre:List (Ck m len)),i=.int .i64 ((k *m:Nat):Int)/\k *m<=len+m/\Hid (pre.length=k/\(L.drop (k *m)).length<=f/\pre.map (Ck.of L)++Tb.cut m f (L.drop (k *m))=Tb.cut m len L)/\J pre wr/\wr.cell? ⟨U,0,none⟩=some (.slice (some p) len cap)/\wr.cell? ⟨Z,0,none⟩=some (.int .i64 (m:Int)))
  (fun i _=>len - (intOf i).toNat)
 case atStart=>exact⟨0,len,[],by simp,by simp,H_ ⟨rfl,by simp[hL],by simp⟩,h0,b0,b1⟩
 case round=>
  obtain⟨k,f,pre,rfl,b2,H,a1,b3,b5⟩:=hrel;obtain⟨q,I⟩:=n_ (k *m);rw[<-I]at H b2 ⊢
  by_cases b6:q < len
  ·have a2:(q:Int) < (len:Int):=o_
   have C:k *m < len:=by rw[<-I];exact b6
   obtain⟨e,he⟩:=n_ (min m (len - q));have f5:0 < e:=o_
   have d8:(0:Int) < (e:Int):=o_
   have f6:q+e<=len:=o_
   have d9:(q:Int)+(e:Int)<=(len:Int):=o_
   have f7:(q:Int)<=(q:Int)+(e:Int):=o_
   have f8:(q:Int)+(e:Int)<=(cap:Int):=o_
   have f9:IntKind.i64.wrap ((q:Int)+(e:Int))=((q+e:Nat):Int):=by rw[D_ _ o_];omega
   have d':min (m:Int) ((len - q:Nat):Int)=(e:Int):=o_
   obtain⟨fn,tmps,assign,body,hy,hR⟩:=hY pre ⟨k,C⟩ wr.drew (a' _ _ a1) (by rw[H.out.1];exact C) H.out.1.symm;have hv:Ck.val p (⟨k,C⟩:Ck m len)=.slice (some (p.add (q *5))) e e:=by
    unfold Ck.val Ck.len;simp only;rw[<-I,<-he]
   rw[hv]at hy;have e2:(cap=q)=False:=eq_false o_;have b8:(e=0)=False:=eq_false o_;have b9:=H_ (show ∃f',(L.drop ((k+1)*m)).length<=f'/\(pre++[(⟨k,C⟩:Ck m len)]).map (Ck.of L)++Tb.cut m f' (L.drop ((k+1)*m))=Tb.cut m len L from eq5 hm hL C (by rw[<-I];exact H.out.2.1) (by rw[<-I];exact H.out.2.2));have b':=H_ H.out.1;have a4:(k+1)*m=q+m:=by rw[I];exact cv_ k m
   have e3:IntKind.i64.wrap ((q:Int)+(m:Int))=((q+m:Nat):Int):=by rw[D_ _ o_];omega
   have a5:=H_ a4;have HR:=H_ hR;have HE:=H_ (c_ he I);clear hR hv he I hY a4 H
   gi_wp2
   gi_region
   all_goals gi_wp2
   all_goals
    refine HR.out.mono ?_;rintro e' W3 (⟨rfl,c9,Q⟩|⟨rfl,a6⟩)
    ·have c':W3.cell? ⟨U,0,none⟩=some (.slice (some p) len cap):=(a0 _ _ Q).1.trans b3
     have d0:W3.cell? ⟨Z,0,none⟩=some (.int .i64 (m:Int)):=(a0 _ _ Q).2.trans b5;clear Q
     gi_wp2
     go_roundw
     case rel=>
      obtain⟨f',z1,z2⟩:=b9.out;exact⟨k+1,f',pre++[⟨k,C⟩],by rw[a5.out];go_num,by rw[a5.out];omega,H_ ⟨by rw[d_,b'.out];rfl,z1,z2⟩,c9,c',d0⟩
     case measure=>simp[intOf];omega
    ·gi_wp2
     refine bodyPost_ret (results_none rfl _ _ _) rfl ?_;exact⟨⟨_,rfl⟩,.inr ⟨_,a6⟩⟩
  ·have a2:((q:Int) < (len:Int))=False:=eq_false o_
   have O:pre.map (Ck.of L)=Tb.cut m len L:=by
    have h1:=H.out.2.2;rw[aG_ o_]at h1;rw[<-h1]
    cases f<;>simp[Tb.cut]
   have a7:=H_ O;clear O H I
   gi_wp2
   go_end0
   exact⟨⟨_,rfl⟩,.inl ⟨_,a7.out,a1⟩⟩
theorem vq1 (F:Fence) (n:Nat) (H:F.fn 166) (C:F.round=none) (l E I cap:Nat) (A:Option Addr) (J:World->Prop) (W:World) (O:W.cell? ⟨E,0,none⟩=some (.slice A 0 cap)) (Q:J W):
  CallsIn F n prog 166 #[.func (.yield l) #[] #[],.pointer (some ⟨E,0,none⟩),.pointer (some ⟨I,0,none⟩)] W fun e U=>(∃v,e=.returned v)/\J U:=by
 refine callsIn_of_wp func166 rfl H ?_ C;simp only[ntmps166,aA_,q_,V_,Nat.reduceAdd,Nat.reduceSub,bd_,be_,bs_,bi_,C_,T_]
 gi_wp2
 gi_loopw [4] (fun i wr=>i=.int .i64 0/\wr=W) (fun _ _=>0)
 case atStart=>exact⟨rfl,rfl⟩
 case round=>
  obtain⟨rfl,rfl⟩:=hrel
  gi_wp2
  go_end0
  exact⟨⟨_,rfl⟩,Q⟩
theorem ox3 (F:Fence) (n:Nat) (h7:F.fn 166) (H:F.round=none) (hn:1<=n) (C E:Nat) (Z:World->World->Prop) (a0:∀W I,Z W I->I.cell? ⟨C,0,none⟩=W.cell? ⟨C,0,none⟩/\I.cell? ⟨E,0,none⟩=W.cell? ⟨E,0,none⟩) (p:Addr) (A:Option Addr) (len cap m:Nat) (hA:0 < len->A=some p) (L:List It) (hL:L.length=len) (hm:1<=m) (a1:m<=1000) (O:len<=100000) (Q:len<=cap) (w:World) (a2:C < w.heap.size) (a4:E < w.heap.size)
  (a5:w.cell? ⟨C,0,none⟩=some (.slice A len cap)) (a6:w.cell? ⟨E,0,none⟩=some (.int .i64 (m:Int))):
  SeqStopsK F n prog 166 #[.pointer (some ⟨C,0,none⟩),.pointer (some ⟨E,0,none⟩)] (fun x:Ck m len=>#[Ck.val p x]) Z (fun ys=>ys.map (Ck.of L)=Tb.cut m len L) (fun _=>True) len w:=fun l J Jx W hW hJ _ hY h0=>by
 have c1:=(hW.cell (p:=⟨C,0,none⟩) a2).trans a5;have c2:=(hW.cell (p:=⟨E,0,none⟩) a4).trans a6;have a8:∀pre W,J pre W->J pre W.drew:=fun pre W h=>hJ pre W _ none h ⟨rfl,rfl,rfl,y_ _,fun _ _ _=>rfl⟩ (fun r e=>by cases e)
 rcases ao_ len with h|h
 ·subst h
  refine(vq1 F n h7 H l C E cap A (fun W=>J [] W) W c1 h0).mono ?_;rintro e I ⟨U,hj⟩;exact⟨U,.inl ⟨[],by simp[Tb.cut],hj⟩⟩
 ·rw[hA h]at c1
  refine(zq2 F n h7 H hn l C E Z a0 p len cap m L hL hm a1 O Q J Jx a8 (fun pre x W hj hl _=>hY pre x W hj (by have:=Nat.le_mul_of_pos_right pre.length hm;omega)) W c1 c2 h0).mono ?_;rintro e I ⟨U,⟨ys,h1,h2⟩|⟨pre,h1⟩⟩
  ·exact⟨U,.inl ⟨ys,h1,h2⟩⟩
  ·exact⟨U,.inr ⟨pre,trivial,h1⟩⟩
theorem tq3 (F:Fence) (n:Nat) (h5:F.fn 95) (C:F.round=none) (a:Option Addr) (len cap m:Nat) (E:1<=m) (w:World):
  CallsIn F n prog 95 #[.slice a len cap,.int .i64 (m:Int)] w fun e w'=>e=.returned (.func (.func 166) #[] #[.pointer (some ⟨w.heap.size,0,none⟩),.pointer (some ⟨w.heap.size+1,0,none⟩)])/\w'=(w.alloc (.cells #[.slice a len cap] 26)).alloc (.cells #[.int .i64 (m:Int)] 3):=by
 have h1:((m:Int) < 1)=False:=eq_false o_;refine callsIn_of_wp func95 rfl h5 ?_ C;simp only[ntmps95,aA_,q_,V_,Nat.reduceAdd,Nat.reduceSub,bd_,be_,bs_,bi_,C_,T_]
 gi_wp2
 go_ret;exact⟨rfl,rfl⟩
end
section
structure Acc (F:List Nat) (X:Dw) (w:World) (S:Sd) (w':World) (X':Dw):Prop where
 e:X'.d=X.d
 dm:Dm w' X' S
 c:Chg (F++X.foot) w w'
 f:∀g∈X'.foot,g∈X.foot\/w.heap.size<=g
variable {F:List Nat} {X X1:Dw} {w w1 w2:World} {S S1:Sd}
theorem Acc.start (h:Dm w X S):Acc F X w S w X:=⟨rfl,h,Chg.refl _ _,fun _ C=>.inl C⟩
theorem Acc.below (h:Acc F X w S w1 X1) (C:Below w1.heap.size w1 w2):Acc F X w S w2 X1:=⟨h.e,h.dm.below C,h.c.trans (Chg.of_below C []) (fun g E=>by cases E),h.f⟩
theorem Acc.step (h:Acc F X w S w1 X1) (E:UpdM X1 w1 w2 S1):∃X2,Acc F X w S1 w2 X2:=by
 obtain⟨X2,e,hd,H,I⟩:=E;refine⟨X2,e.trans h.e,hd,h.c.trans H (fun g C=>?_),fun g C=>?_⟩
 ·rcases h.f g C with h1|h1
  ·exact .inl (p_ _ h1)
  ·exact .inr h1
 ·rcases I g C with h1|h1
  ·exact h.f g h1
  ·exact .inr (j_ h.c.size h1)
theorem Acc.other (h:Acc F X w S w1 X1) {G:List Nat} (c:Chg G w1 w2) (E:∀g∈G,g∈F/\g < w.heap.size/\g∉X.foot/\NG<=g):Acc F X w S w2 X1:=by
 refine⟨h.e,h.dm.chg c (fun g C=>⟨fun H=>?_,(E g C).2.2.2⟩),h.c.trans c (fun g C=>.inl (x_ _ (E g C).1)),h.f⟩;obtain⟨_,h2,h3,_⟩:=E g C
 rcases h.f g H with h4|h4
 ·exact h3 h4
 ·omega
theorem Acc.updM (h:Acc [] X w S w1 X1):UpdM X w w1 S:=⟨X1,h.e,h.dm,by simpa using h.c,h.f⟩
theorem Acc.read (h:Acc F X w S w1 X1) (s:ByteArray) (hs:s.size<=maxLen):
  Calls prog 109 #[.pointer (some ⟨X.d,0,none⟩),.string s] w1 fun e w'=>∃A c,e=.returned (.tuple #[.slice A (S.read s.data.toList).1.length c,.int .i64 ((S.read s.data.toList).2:Int)])/\
   w'.ownsRow w1.heap.size 5 1 (.slice A (S.read s.data.toList).1.length c) (S.read s.data.toList).1.length (bts (S.read s.data.toList).1)/\Below w1.heap.size w1 w':=by
 rw[<-h.e];exact bv5 X1 S s hs h.dm.wf w1 h.dm.dk
theorem Acc.append (h:Acc F X w S w1 X1) (s:ByteArray) (hs:s.size<=maxLen) (A:Option Addr) (m c:Nat) (b:List UInt8) (C:m<=1099511627776) (E:Row w1.heap.size w1 A m 1 (bts b)) (H:∀a,A=some a->a.block∉X1.foot):
  Calls prog 136 #[.pointer (some ⟨X.d,0,none⟩),.string s,.slice A m c] w1 fun e w'=>e=.returned (.int .i64 ((S.append s.data.toList b).2:Int))/\∃X2,Acc F X w (S.append s.data.toList b).1 w' X2:=by
 rw[<-h.e];exact(zq1 X1 S s hs A m c b C h.dm.wf w1 h.dm.dk E (fun a I e=>H a I (by rw[e];exact aj.2 (.inl rfl)))).mono fun e w' ⟨h1,h2⟩=>⟨h1,h.step (h.dm.upd (h.dm.wf.append _ _) h2)⟩
theorem Acc.create (h:Acc F X w S w1 X1) (s:ByteArray) (hs:s.size<=maxLen) (C:S.load<=1099511627776):
  Calls prog 141 #[.pointer (some ⟨X.d,0,none⟩),.string s] w1 fun e w'=>e=.returned (.int .i64 ((S.create s.data.toList).2:Int))/\∃X2,Acc F X w (S.create s.data.toList).1 w' X2:=by
 rw[<-h.e];exact(py2 X1 S s hs h.dm.wf C w1 h.dm.dk).mono fun e w' ⟨h1,h2⟩=>⟨h1,h.step (h.dm.upd (h.dm.wf.create _) h2)⟩
theorem Acc.sync (h:Acc F X w S w1 X1) (s:ByteArray) (hs:s.size<=maxLen):
  Calls prog 142 #[.pointer (some ⟨X.d,0,none⟩),.string s] w1 fun e w'=>e=.returned (.int .i64 ((S.sync s.data.toList).2:Int))/\∃X2,Acc F X w (S.sync s.data.toList).1 w' X2:=by
 rw[<-h.e];exact(sync_any X1 S s hs h.dm.wf w1 h.dm.dk).mono fun e w' ⟨h1,h2⟩=>⟨h1,h.step (h.dm.upd (h.dm.wf.sync _) h2)⟩
theorem Acc.remove (h:Acc F X w S w1 X1) (s:ByteArray) (hs:s.size<=maxLen) (C:S.load<=1099511627776):
  Calls prog 66 #[.pointer (some ⟨X.d,0,none⟩),.string s] w1 fun e w'=>e=.returned (.int .i64 ((S.remove s.data.toList).2:Int))/\∃X2,Acc F X w (S.remove s.data.toList).1 w' X2:=by
 rw[<-h.e];exact(mw2 X1 S s hs h.dm.wf C w1 h.dm.dk).mono fun e w' ⟨h1,h2⟩=>⟨h1,h.step (h.dm.upd (h.dm.wf.remove _) h2)⟩
theorem Acc.ax (h:Acc F X w S w1 X1):
  Calls prog 143 #[.pointer (some ⟨X.d,0,none⟩)] w1 fun e w'=>e=.returned (.int .i64 ((S.ax).2:Int))/\∃X2,Acc F X w (S.ax).1 w' X2:=by
 rw[<-h.e];exact(ev2 X1 S h.dm.wf w1 h.dm.dk).mono fun e w' ⟨h1,h2⟩=>⟨h1,h.step (h.dm.upd h.dm.wf.ax h2)⟩
theorem Acc.list (h:Acc F X w S w1 X1):
  Calls prog 107 #[.pointer (some ⟨X.d,0,none⟩)] w1 fun e w'=>∃A c,e=.returned (.slice A S.list.length c)/\w'.ownsRow w1.heap.size 9 1 (.slice A S.list.length c) S.list.length (S.list.map Go.Proofs.encStr)/\Below w1.heap.size w1 w':=by
 rw[<-h.e];exact aw3 X1 S h.dm.wf w1 h.dm.dk
def Ms.cells (M:Ms) (xd:Nat):List Value:=[.pointer (some ⟨xd,0,none⟩),.string (str M.name),.int .i64 (M.v.g:Int),.slice none 0 0,.int .u64 (M.v.f:Int),.int .u64 (M.v.c:Int),.int .u64 (M.v.a:Int),.int .u64 (M.v.l:Int),.int .i64 (M.count:Int),.int .u32 (if M.broken=true then 1 else 0),.int .i32 0,.int .u32 0,.bool M.broken]
abbrev MK (w:World) (m xd:Nat) (M:Ms):Prop:=BoxO w 191 m (M.cells xd)
end
section
attribute [local go_sem] Oper.semAt_some
theorem lv5:(prog.info? 26).map (fun i=>(i.zero,i.size,i.bytes))=some (some (.slice none 0 0),1,24):=by kernel_rfl
theorem yj1 (p:Addr) (n c:Nat) (l:List It) (w:World) (h0:0 < n) (hn:n<=1000000) (hr:Row w.heap.size w (some p) n 5 (itc l)):
  Calls prog 252 #[.slice (some p) n c] w fun e w'=>∃A' I,e=.returned (.slice A' n I)/\w'.ownsRow w.heap.size 49 5 (.slice A' n I) n (itc l)/\n<=I/\I<=maxLen/\Below w.heap.size w w':=by
 obtain⟨i0,J,O,Q,U⟩:=info_parts qw;have HR:=H_ hr;clear hr;go_enter func252,ntmps252;have E:(w.alloc (.cells #[] 49)).ownsRow w.heap.size 49 5 (.slice (some ⟨w.heap.size,0,none⟩) 0 0) 0 []:=⟨rfl,.inr ⟨w.heap.size,0,#[],rfl,y_ _,heap_alloc_new w _,y_ _,by decide,rfl,rfl⟩⟩;have C:=b_ w (.cells #[] 49);have HO:=H_ E;have Z:=H_ C;have H:=H_ (HR.out.below C);clear E C;have a2:∀W,(binOp .eql 26 (.slice (some p) n c) (.slice none 0 0)).run prog W=.ok (.bool false) W:=fun W=>Lib.run_eql_slice_some_nil (e:=49) W _ _ _ (by kernel_rfl);go_wp2_with (at_builtin;refine iy ?_);refine bz (iq rfl (.tmp 5) (.tmp 6) _ rfl w.heap.size 49 i0 _ 5 40 underlying26 J O Q U rfl o_ w Z.out Z.out.size _ 0 [] rfl HO.out w.heap.size _ n c (itc l) rfl H.out (uj l) n _ (an_ n) (C_ _) (by unfold maxLen;omega) o_ ?_);intro A3 c3 w3 z1 z2 z3 z4 z5;have HF:=H_ z1;clear z1 z3 HO Z H;go_wp2;go_ret;exact⟨A3,c3,rfl,HF.out,z4,z5,z2⟩
def Kp3 (n₀ a b:Nat) (W W':World):Prop:=Below n₀ W W'/\W'.heap[a]?=W.heap[a]?/\W'.heap[b]?=W.heap[b]?
theorem Kp3.trans {n₀ a b:Nat} {A B C:World} (h:Kp3 n₀ a b A B) (k:Kp3 n₀ a b B C):Kp3 n₀ a b A C:=⟨h.1.trans k.1,k.2.1.trans h.2.1,k.2.2.trans h.2.2⟩
theorem Kp3.cell {n₀ a b:Nat} (W C:World) (h:Kp3 n₀ a b W C):C.cell? ⟨a,0,none⟩=W.cell? ⟨a,0,none⟩/\C.cell? ⟨b,0,none⟩=W.cell? ⟨b,0,none⟩:=⟨aH_ h.2.1,aH_ h.2.2⟩
theorem own_ne {W:World} {base:Nat} {e:TypeId} {size n:Nat} {v:Value} {xs:List Value} (h:W.ownsRow base e size v n xs) {row:Option Nat} (E:∀r,row=some r->∀cs H,W.heap[r]?≠some (.cells cs e H)):v.ownBlock=none\/v.ownBlock≠row:=by
 rcases h.2 with ⟨rfl,_⟩|⟨g,cap,cur,rfl,J,C,_⟩
 ·exact .inl rfl
 ·exact .inr fun I=>E g (by simpa [Value.ownBlock] using I.symm) _ _ C
def Cuts {m len:Nat} (n₀:Nat) (W:World) (L:List It) (v:Value) (pre:List (Ck m len)):Prop:=∃vs,W.ownsRow n₀ 26 1 v pre.length vs/\∀i (h:i < pre.length),∃A k c,vs[i]?=some (.slice A k c)/\k<=c/\c<=maxLen/\W.ownsRow n₀ 49 5 (.slice A k c) k (itc (Ck.of L pre[i]))
theorem Cuts.kept {m len n₀:Nat} {W E:World} {L:List It} {v:Value} {pre:List (Ck m len)} (h:Cuts n₀ W L v pre) {row:Option Nat} (H:W.grownBy E row) (I:∀r,row=some r->∀cs C,W.heap[r]?≠some (.cells cs 26 C)/\W.heap[r]?≠some (.cells cs 49 C)):Cuts n₀ E L v pre:=by
 obtain⟨vs,h1,h2⟩:=h;refine⟨vs,h1.kept H (own_ne h1 fun r e cs C=>(I r e cs C).1),fun i hi=>?_⟩;obtain⟨A,k,c,O,Q,U,J⟩:=h2 i hi;exact⟨A,k,c,O,Q,U,J.kept H (own_ne J fun r e cs C=>(I r e cs C).2)⟩
theorem Cuts.more {m len n₀:Nat} {W E:World} {L:List It} {v J:Value} {vs:List Value} {pre:List (Ck m len)} {x:Ck m len} {A:Option Addr} {k c:Nat} (h:∀i (h:i < pre.length),∃A k c,vs[i]?=some (.slice A k c)/\k<=c/\c<=maxLen/\W.ownsRow n₀ 49 5 (.slice A k c) k (itc (Ck.of L pre[i]))) (hl:vs.length=pre.length) (O:W.grownBy E v.ownBlock) (hv:W.ownsRow n₀ 26 1 v pre.length vs)
  (hk:k<=c) (hc:c<=maxLen) (Q:W.ownsRow n₀ 49 5 (.slice A k c) k (itc (Ck.of L x))) (H:E.ownsRow n₀ 26 1 J (pre.length+1) (vs++[.slice A k c])):Cuts n₀ E L J (pre++[x]):=by
 have C:∀r,v.ownBlock=some r->∀cs U,W.heap[r]?≠some (.cells cs 49 U):=by
  intro r Z cs U e
  rcases hv.2 with ⟨rfl,_⟩|⟨g,cap,cur,rfl,hb,I,_⟩
  ·simp[Value.ownBlock]at Z
  ·obtain rfl:g=r:=by simpa [Value.ownBlock] using Z
   rw[I]at e;injection e with e;injection e with _ e;exact absurd e (by decide)
 refine⟨vs++[.slice A k c],by rw[d_];exact H,fun i hi=>?_⟩;rw[d_]at hi
 rcases ah_ i pre.length with h1|h1
 ·obtain⟨A,k,c,z1,z2,z3,z4⟩:=h i h1
  refine⟨A,k,c,by rw[O_ o_];exact z1,z2,z3,?_⟩;rw[aR_ h1];exact z4.kept O (own_ne z4 C)
 ·have h2:i=pre.length:=by simp at hi;omega
  subst h2;refine⟨A,k,c,by rw[<-hl];simp,hk,hc,?_⟩;rw[bH_ l_];simp only[bQ_,a5_];exact Q.kept O (own_ne Q C)
theorem Cuts.rows {m len n₀:Nat} {W:World} {L:List It} {A:Option Addr} {n c:Nat} {pre:List (Ck m len)} (h:Cuts n₀ W L (.slice A n c) pre):n=pre.length/\oj1 W.heap.size W A n (pre.map (Ck.of L)):=by
 obtain⟨vs,h1,h2⟩:=h;have C:n=pre.length:=by
  rcases h1.2 with ⟨e,O⟩|⟨g,cap,cur,e,_⟩
  ·injection e with _ e _
   omega
  ·injection e
 subst C;refine⟨rfl,vs,Row.own h1,by simp,fun i hi=>?_⟩;rw[F_]at hi;obtain⟨A,k,c,E,H,I,J⟩:=h2 i hi;exact⟨A,k,c,E,H,I,by rw[co_];exact Row.own J⟩
theorem mz1 {P:Program} {F:Fence} {nF:Nat} {ops:Array Oper} {o:Oper} {a:Act} {w:World} {K:Act->World->Prop} {Q:Exit->Act->World->Prop} {E:Prop} (Z:o.guard=none) (s x:Operand) (t:TypeId)
  (ho:o.op=.call { callee:=.builtin .append,args:=#[s,x],argTypes:=#[t,t] })
  (base:Nat) (e:TypeId) (i:TypeInfo) (z:Value) (size bytes:Nat) (ht:P.underlying t=some (.slice e)) (hi:P.info? e=some i) (hz:i.zero=some z)
  (H:i.size=size) (a1:i.bytes=bytes) (a2:z.cells.size=size) (a4:0 < size) (I:base<=w.heap.size) (v:Value) (n:Nat) (xs:List Value) (hs:a.eval s=v) (O:w.ownsRow base e size v n xs)
  (B:Nat) (A:Option Addr) (m c:Nat) (news:List Value) (hx:a.eval x=.slice A m c) (hr:Row B w A m size news) (h1:∀u∈news,u.oneCell'=true)
  (N:Nat) (X:List Value) (hN:n+m=N) (hX:xs++news=X) (a5:N<=maxLen) (C:N *bytes<=140737488355328)
  (h:∀A' J w',w'.ownsRow base e size (.slice A' N J) N X->w.grownBy w' v.ownBlock->N<=J->J<=maxLen->((Value.slice A' N J).ownBlock=v.ownBlock\/(Value.slice A' N J).ownBlock=some w.heap.size)->K (a.put o.dst (.slice A' N J)) w'):
  if Region.wanted o (yielded ops a.tmps)=true then Oper.wpIn F nF P o a w K Q else E:=by
 have hw:Region.wanted o (yielded ops a.tmps)=true:=by simp[Region.wanted,Z]
 rw[if_pos hw];subst hN;subst hX;obtain⟨A',J,w',U,h3,h4,h5,h7,h6⟩:=uy2 (P:=P) w base t o.type e i z size bytes ht hi hz H a1 a2 a4 v n xs O B A m c news hr h1 a5 C I;unfold Oper.wpIn;refine⟨by simp[Oper.about,ho,resolve,Target.leads,Sem.run_pure],?_⟩;rw[Oper.semAt_plain F _ _ (by rw[ho];intro c a6;cases a6)];simp[execOp,ho,resolve,invoke,builtin,hs,hx,U,Result.andThen];exact h _ _ _ h3 h4 h5 h7 h6
theorem ik4 (L:List It) (k m:Nat) {len:Nat} (C:L.length=len):((itc L).drop (k *5)).take (m *5)=((itc L).drop (k *5)).take (min m (len - k)*5):=by
 rcases Nat.le_total m (len - k) with h|h
 ·rw[a0_ h]
 ·rw[Nat.min_eq_right h,g_ (by rw[I_,jk];omega),g_ (by rw[I_,jk];omega)]
theorem oy1 {m len:Nat} {w W O C:World} {L:List It} {v:Value} {A1 H:Option Addr} {c1 c3:Nat} {vs:List Value} {pre:List (Ck m len)} {x:Ck m len} (o:Obj)
  (h1:C.ownsRow (w.heap.size+3) 26 1 (.slice H (pre.length+1) c3) (pre.length+1) (vs++[.slice A1 x.len c1])) (hg:(O.alloc o).grownBy C v.ownBlock) (E:Below W.heap.size W O)
  (ho:O.ownsRow W.heap.size 49 5 (.slice A1 x.len c1) x.len (itc (Ck.of L x))) (hc:x.len<=c1/\c1<=maxLen)
  (hX:Boxed C w.heap.size 98 v/\Boxed (C.setCell ⟨w.heap.size,0,none⟩ (.slice H (pre.length+1) c3)) w.heap.size 98 (.slice H (pre.length+1) c3)/\KeepsOthers O (C.setCell ⟨w.heap.size,0,none⟩ (.slice H (pre.length+1) c3))/\Below w.heap.size O (C.setCell ⟨w.heap.size,0,none⟩ (.slice H (pre.length+1) c3)))
  (a1:∀i (h:i < pre.length),∃A k c,vs[i]?=some (.slice A k c)/\k<=c/\c<=maxLen/\W.ownsRow (w.heap.size+3) 49 5 (.slice A k c) k (itc (Ck.of L pre[i]))) (I:W.ownsRow (w.heap.size+3) 26 1 v pre.length vs) (a2:w.heap.size+3<=W.heap.size) (hB:Below w.heap.size w W):
  KeepsOthers W (C.setCell ⟨w.heap.size,0,none⟩ (.slice H (pre.length+1) c3))/\Kp3 w.heap.size (w.heap.size+1) (w.heap.size+1+1) W (C.setCell ⟨w.heap.size,0,none⟩ (.slice H (pre.length+1) c3))/\
   ((w.heap.size+3<=(C.setCell ⟨w.heap.size,0,none⟩ (.slice H (pre.length+1) c3)).heap.size/\∃v',Boxed (C.setCell ⟨w.heap.size,0,none⟩ (.slice H (pre.length+1) c3)) w.heap.size 98 v'/\Cuts (w.heap.size+3) (C.setCell ⟨w.heap.size,0,none⟩ (.slice H (pre.length+1) c3)) L v' (pre++[x]))/\Below w.heap.size w (C.setCell ⟨w.heap.size,0,none⟩ (.slice H (pre.length+1) c3))):=by
 obtain⟨x1,x2,x3,x4⟩:=hX;have Z:=E.mono (show w.heap.size<=W.heap.size by omega);have a5:W.grownBy O none:=⟨E.os,E.tape,E.output,E.size,fun k hk _=>E.block k hk⟩;have a6:KeepsOthers W O:=KeepsOthers.of_grownBy a5 (fun j o ej=>by cases ej);have Q:=(own_below I E).alloc o;have a7:∀k,v.ownBlock=some k->w.heap.size+3<=k:=by
  intro k hk
  rcases I.2 with ⟨rfl,_⟩|⟨g,cap,cur,rfl,E,c9,_⟩
  ·simp[Value.ownBlock]at hk
  ·obtain rfl:g=k:=by simpa [Value.ownBlock] using hk
   exact E
 have J:∀k,k < w.heap.size+3->k≠w.heap.size->(C.setCell ⟨w.heap.size,0,none⟩ (.slice H (pre.length+1) c3)).heap[k]?=W.heap[k]?:=by
  intro k hk a8;rw[Below.heap_setCell _ _ _ k (fun e=>a8 e),hg.block k (by rw[Q_];have:=E.size;omega) (fun e=>by have:=a7 k e.symm;omega),Below.heap_alloc _ _ k (by have:=E.size;omega),E.block k o_]
 refine⟨a6.trans x3,⟨Z.trans x4,J _ o_ o_,J _ o_ o_⟩,⟨?_,_,x2,?_⟩,(hB.trans Z).trans x4⟩
 ·have h2:=x4.size
  have:=E.size;omega
 ·have a9:Cuts (w.heap.size+3) C L (.slice H (pre.length+1) c3) (pre++[x]):=by
   refine Cuts.more (W:=O.alloc o) (v:=v) (fun i hi=>?_) (by have:=I.1;omega) hg Q hc.1 hc.2 (own_base (ho.alloc o) a2) h1;obtain⟨A,k,c,z1,z2,z3,z4⟩:=a1 i hi;exact⟨A,k,c,z1,z2,z3,(own_below z4 E).alloc o⟩
  refine a9.kept (grownBy_setCell' _ _ _) (fun r e cs fr=>?_)
  cases e
  constructor<;>(intro U;rw[show C.heap[w.heap.size]?=_ from x1]at U;injection U with U;injection U with _ U;exact absurd U (by decide))
theorem zw4 (A:Option Addr) (len c:Nat) (L:List It) (w:World) (g6:len<=2000) (f8:len<=c) (hr:Row w.heap.size w A len 5 (itc L)):
  Calls prog 208 #[.slice A len c,.int .i64 20] w fun e w'=>∃A' k c',e=.returned (.slice A' k c')/\k<=c'/\c'<=maxLen/\oj1 w'.heap.size w' A' k (Tb.cut 20 len L)/\Below w.heap.size w w':=by
 obtain⟨i0,b8,b9,b',c9⟩:=info_parts lv5;have d9:=hr.qj;have h7:max (20:Int) 1=20:=by decide
 have h8:min (20:Int) 100=20:=by decide
 obtain⟨p,hp⟩:∃p,0 < len->A=some p:=by
  cases A with
  |none=>
   refine⟨⟨0,0,none⟩,fun h=>?_⟩;obtain⟨a,_,e,_⟩:=hr.it h
   cases e
  |some p=>exact⟨p,fun _=>rfl⟩
 have HR:=H_ hr;have HP:=H_ hp;clear hr hp;refine(callsIn_wide (n:=6)).1 ?_;refine callsIn_of_wp_marks func208 rfl trivial ?_ rfl;simp only[ntmps208,aA_,q_,V_,Nat.reduceAdd,Nat.reduceSub,bd_,be_,bs_,bi_,C_,T_]
 gi_wp2_with (refine⟨trivial,?_⟩;gi_at_call 95;refine(tq3 Fence.wide 5 trivial rfl A len c 20 o_ _).mono ?_;rintro e w' ⟨rfl,rfl⟩)
 have bO:=Boxed.new w 98 (.slice none 0 0);have bS:=Boxed.new (w.alloc (.cells #[.slice none 0 0] 98)) 26 (.slice A len c);have bM:=Boxed.new ((w.alloc (.cells #[.slice none 0 0] 98)).alloc (.cells #[.slice A len c] 26)) 3 (.int .i64 ((20:Nat):Int));rw[Q_]at bS;rw[Q_,Q_]at bM;have d':Below w.heap.size w (((w.alloc (.cells #[.slice none 0 0] 98)).alloc (.cells #[.slice A len c] 26)).alloc (.cells #[.int .i64 ((20:Nat):Int)] 3)):=(((Below.refl _ w).alloc l_ _).alloc s_ _).alloc (by simp;omega) _;have e0:=ox3 Fence.wide 5 trivial rfl o_ (w.heap.size+1) (w.heap.size+1+1) (Kp3 w.heap.size (w.heap.size+1) (w.heap.size+1+1)) Kp3.cell p A len c 20 HP.out L d9 o_ o_ o_ f8 _ s_ s_ (bS.alloc _).cell bM.cell;refine wpIn_rangeFunc_ownF (α:=Ck 20 len) (n:=6) (encs:=fun x=>#[Ck.val p x]) rfl o_ (gf:=166) (lb:=#[.pointer (some ⟨w.heap.size+1,0,none⟩),.pointer (some ⟨w.heap.size+1+1,0,none⟩)]) rfl trivial (enters_of func166 (by kernel_rfl) rfl) e0 Kp3.trans ?hKb b0_ (fun _=>rfl)
  (fun pre W=>(w.heap.size+3<=W.heap.size/\∃v,Boxed W w.heap.size 98 v/\Cuts (w.heap.size+3) W L v pre)/\Below w.heap.size w W)
  (fun _ _ _=>False) ?hI (fun _ _ _ _ _ hs _ _=>hs) ⟨⟨by simp,_,(bO.alloc _).alloc _,[],E_ _ _ _ _,fun i hi=>absurd hi s_⟩,d'⟩
  (fun x=>{ tmps:=#[.slice A len c,.int .i64 20,undef,undef,.slice none 0 0,.pointer (some ⟨w.heap.size,0,none⟩),Ck.val p x,.slice A len c,.int .i64 20,.int .i64 20,.int .i64 20,.func (.func 166) #[] #[.pointer (some ⟨w.heap.size+1,0,none⟩),.pointer (some ⟨w.heap.size+1+1,0,none⟩)],Ck.val p x,undef,undef,undef,undef,undef,undef],defers:=[] }) ?assign ?body ?done ?stop
 case hKb=>
  intro W l o o' hl ho h1 h2;refine⟨belowK_b (by simp;omega) W l o o' hl ho h1 h2,aa_ (fun e=>?_),aa_ (fun e=>?_)⟩
  ·simp at hl;omega
  ·simp at hl;omega
 case hI=>
  refine OwnFrom.and (fun pre W W' row hs hg hr=>?_) (ownFrom_below l_ (by simp;omega));obtain⟨h0,v,h1,h2⟩:=hs;have e1:∀r,row=some r->∃o:Obj,W.heap[r]?=some o/\o.isCells=false:=fun r e=>(hr r e).2;refine⟨j_ h0 hg.size,v,h1.kept hg (fun e'=>?_),h2.kept hg fun r e cs fr=>?_⟩
  ·obtain⟨o,ho,hc⟩:=e1 _ e'.symm
   rw[show W.heap[w.heap.size]?=_ from h1]at ho
   cases ho
   cases hc
  ·obtain⟨o,ho,hc⟩:=e1 r e
   constructor<;>(intro e2;rw[ho]at e2;cases e2;cases hc)
 case assign=>
  intro l x W K E
  gi_wp2
  exact E
 case body=>
  rintro l pre x W ⟨⟨d0,v,hv,vs,d4,e4⟩,hB⟩ i4;have hc:=hv.cell;have hx:=x.2;have I:0 < x.len:=by unfold Ck.len;omega
  have Q:x.len<=20:=by unfold Ck.len;omega
  have a2:x.1 *20+x.len<=len:=by unfold Ck.len;omega
  have hA:A=some p:=HP.out o_;have hrow:Row W.heap.size W.drew (some (p.add (x.1 *20 *5))) x.len 5 (itc (Ck.of L x)):=by
   have h1:=((HR.out.below hB).up hB.size).drew;have h2:=h1.cut (k:=x.1 *20) (m:=x.1 *20+x.len) (A':=some (p.add (x.1 *20 *5))) o_ o_ (fun _=>by rw[hA];rfl);rw[show x.1 *20+x.len - x.1 *20=x.len from by omega]at h2;rw[show itc (Ck.of L x)=((itc L).drop (x.1 *20 *5)).take (x.len *5) from by unfold Ck.of;rw[dz1,pq1];exact ik4 L (x.1 *20) 20 d9];exact h2
  have b1:=H_ hrow;have d1:=H_ e4;have J:=H_ d4;have HV:=H_ hv;have d2:=H_ hB;clear hrow e4 d4 hv hA hx a2 e0 bO bS bM d'
  gi_wp2
  refine wpIn_region_any (by kernel_rfl) ?_;change wpAnyIn _ _ _ _ _ _ _ _ _ (World.drew _);refine wpAnyIn_ready (rs:=[0,1]) (by kernel_rfl) s_ ?_;refine AllReadyIn.cons rfl (fun K E=>?_) ?_
  ·go_simp
   refine E _ _ ?_;clear E K;refine wpAnyIn_ready (rs:=[1]) (by kernel_rfl) s_ ?_;refine AllReadyIn.cons rfl (fun K E=>?_) ?_
   ·go_simp
    refine E _ _ ?_;clear E K;refine wpAnyIn_ready (rs:=[2]) (by kernel_rfl) s_ ?_;refine AllReadyIn.cons rfl (fun K E=>?_) ?_
    ·go_simp
     gi_wp2_with (refine⟨trivial,?_⟩;gi_at_call 252;refine(CallsIn.inRound l (callsIn_wide.2 (yj1 _ x.len _ (Ck.of L x) _ o_ o_ b1.out))).mono ?_;rintro e O ⟨A1,c1,rfl,a5,a6,a7,a8⟩)
     have a':=H_ (a5:O.ownsRow W.heap.size 49 5 (.slice A1 x.len c1) x.len (itc (Ck.of L x)));have C:=H_ (((Below.refl W.heap.size W).drew).trans a8);have b3:=(C.out.cell (p:=⟨w.heap.size,0,none⟩) HV.out.lt).trans hc;have e6:=(R_ O (.cells #[.slice A1 x.len c1] 26) ⟨w.heap.size,0,none⟩ (by have:=C.out.size;have:O.drew.heap.size=O.heap.size:=rfl;simp;omega)).trans b3;have b0:=H_ (c_ a6 a7);clear a5 a8 a6 a7;refine wpAnyIn_ready (rs:=[3]) (by kernel_rfl) s_ ?_;refine AllReadyIn.cons rfl (fun K E=>?_) ?_
     ·go_simp
      refine E _ _ ?_;clear E K;refine wpAnyIn_ready (rs:=[4]) (by kernel_rfl) s_ ?_;refine AllReadyIn.cons rfl (fun K E=>?_) ?_
      ·refine mz1 rfl (.tmp 13) (.tmp 16) _ rfl (w.heap.size+3) 26 i0 _ 1 24 underlying98 b8 b9 b' c9 rfl o_ (by have:=C.out.size;rw[Q_];omega) v pre.length vs rfl ((own_below J.out C.out).alloc _) _ (some ⟨O.heap.size,0,none⟩) 1 1 [.slice A1 x.len c1] rfl (Row.new O #[.slice A1 x.len c1] 26 rfl) (by simp[Value.oneCell']) (pre.length+1) _ rfl rfl (by unfold maxLen;omega) o_ ?_
       intro A3 c3 w3 H U _ _ _;have HW:=H_ (c_ H U);clear H U;have Z:Boxed O w.heap.size 98 v:=(C.out.block _ HV.out.lt).trans HV.out;obtain⟨I,Q,a2,a0,a1⟩:=Z.appended (by decide) (own_base (own_below J.out C.out) (aw_ _ 3)) (by have:=C.out.size;omega) l_ (own_base HW.out.1 (aw_ _ 3)) HW.out.2;have b5:=I.cell;have b6:=I.frozen;have HX:=H_ (c_ I (c_ Q (c_ a0 a1)));clear I Q a2 a0 a1 Z;refine E _ _ ?_;clear E K;refine wpAnyIn_ready (rs:=[5]) (by kernel_rfl) s_ ?_;refine AllReadyIn.cons rfl (fun K E=>?_) ?_
       ·go_simp
        refine E _ _ ?_;clear E K;refine wpAnyIn_done (by kernel_rfl) ?_ _
        gi_wp2
        exact oy1 _ HW.out.1 HW.out.2 C.out a'.out b0.out HX.out d1.out J.out d0 d2.out
       exact AllReadyIn.nil
      exact AllReadyIn.nil
     exact AllReadyIn.nil
    exact AllReadyIn.nil
   exact AllReadyIn.nil
  refine AllReadyIn.cons rfl (fun K E=>?_) ?_
  ·go_simp
   refine E _ _ ?_;clear E K;refine wpAnyIn_ready (rs:=[0,2]) (by kernel_rfl) s_ ?_;refine AllReadyIn.cons rfl (fun K E=>?_) ?_
   ·go_simp
    refine E _ _ ?_;clear E K;refine wpAnyIn_ready (rs:=[2]) (by kernel_rfl) s_ ?_;refine AllReadyIn.cons rfl (fun K E=>?_) ?_
    ·go_simp
     gi_wp2_with (refine⟨trivial,?_⟩;gi_at_call 252;refine(CallsIn.inRound l (callsIn_wide.2 (yj1 _ x.len _ (Ck.of L x) _ o_ o_ b1.out))).mono ?_;rintro e O ⟨A1,c1,rfl,a5,a6,a7,a8⟩)
     have a':=H_ (a5:O.ownsRow W.heap.size 49 5 (.slice A1 x.len c1) x.len (itc (Ck.of L x)));have C:=H_ (((Below.refl W.heap.size W).drew).trans a8);have b3:=(C.out.cell (p:=⟨w.heap.size,0,none⟩) HV.out.lt).trans hc;have e6:=(R_ O (.cells #[.slice A1 x.len c1] 26) ⟨w.heap.size,0,none⟩ (by have:=C.out.size;have:O.drew.heap.size=O.heap.size:=rfl;simp;omega)).trans b3;have b0:=H_ (c_ a6 a7);clear a5 a8 a6 a7;refine wpAnyIn_ready (rs:=[3]) (by kernel_rfl) s_ ?_;refine AllReadyIn.cons rfl (fun K E=>?_) ?_
     ·go_simp
      refine E _ _ ?_;clear E K;refine wpAnyIn_ready (rs:=[4]) (by kernel_rfl) s_ ?_;refine AllReadyIn.cons rfl (fun K E=>?_) ?_
      ·refine mz1 rfl (.tmp 13) (.tmp 16) _ rfl (w.heap.size+3) 26 i0 _ 1 24 underlying98 b8 b9 b' c9 rfl o_ (by have:=C.out.size;rw[Q_];omega) v pre.length vs rfl ((own_below J.out C.out).alloc _) _ (some ⟨O.heap.size,0,none⟩) 1 1 [.slice A1 x.len c1] rfl (Row.new O #[.slice A1 x.len c1] 26 rfl) (by simp[Value.oneCell']) (pre.length+1) _ rfl rfl (by unfold maxLen;omega) o_ ?_
       intro A3 c3 w3 H U _ _ _;have HW:=H_ (c_ H U);clear H U;have Z:Boxed O w.heap.size 98 v:=(C.out.block _ HV.out.lt).trans HV.out;obtain⟨I,Q,a2,a0,a1⟩:=Z.appended (by decide) (own_base (own_below J.out C.out) (aw_ _ 3)) (by have:=C.out.size;omega) l_ (own_base HW.out.1 (aw_ _ 3)) HW.out.2;have b5:=I.cell;have b6:=I.frozen;have HX:=H_ (c_ I (c_ Q (c_ a0 a1)));clear I Q a2 a0 a1 Z;refine E _ _ ?_;clear E K;refine wpAnyIn_ready (rs:=[5]) (by kernel_rfl) s_ ?_;refine AllReadyIn.cons rfl (fun K E=>?_) ?_
       ·go_simp
        refine E _ _ ?_;clear E K;refine wpAnyIn_done (by kernel_rfl) ?_ _
        gi_wp2
        exact oy1 _ HW.out.1 HW.out.2 C.out a'.out b0.out HX.out d1.out J.out d0 d2.out
       exact AllReadyIn.nil
      exact AllReadyIn.nil
     exact AllReadyIn.nil
    exact AllReadyIn.nil
   refine AllReadyIn.cons rfl (fun K E=>?_) ?_
   ·go_simp
    gi_wp2_with (refine⟨trivial,?_⟩;gi_at_call 252;refine(CallsIn.inRound l (callsIn_wide.2 (yj1 _ x.len _ (Ck.of L x) _ o_ o_ b1.out))).mono ?_;rintro e O ⟨A1,c1,rfl,a5,a6,a7,a8⟩)
    have a':=H_ (a5:O.ownsRow W.heap.size 49 5 (.slice A1 x.len c1) x.len (itc (Ck.of L x)));have C:=H_ (((Below.refl W.heap.size W).drew).trans a8);have b3:=(C.out.cell (p:=⟨w.heap.size,0,none⟩) HV.out.lt).trans hc;have e6:=(R_ O (.cells #[.slice A1 x.len c1] 26) ⟨w.heap.size,0,none⟩ (by have:=C.out.size;have:O.drew.heap.size=O.heap.size:=rfl;simp;omega)).trans b3;have b0:=H_ (c_ a6 a7);clear a5 a8 a6 a7;refine wpAnyIn_ready (rs:=[0,3]) (by kernel_rfl) s_ ?_;refine AllReadyIn.cons rfl (fun K E=>?_) ?_
    ·go_simp
     refine E _ _ ?_;clear E K;refine wpAnyIn_ready (rs:=[3]) (by kernel_rfl) s_ ?_;refine AllReadyIn.cons rfl (fun K E=>?_) ?_
     ·go_simp
      refine E _ _ ?_;clear E K;refine wpAnyIn_ready (rs:=[4]) (by kernel_rfl) s_ ?_;refine AllReadyIn.cons rfl (fun K E=>?_) ?_
      ·refine mz1 rfl (.tmp 13) (.tmp 16) _ rfl (w.heap.size+3) 26 i0 _ 1 24 underlying98 b8 b9 b' c9 rfl o_ (by have:=C.out.size;rw[Q_];omega) v pre.length vs rfl ((own_below J.out C.out).alloc _) _ (some ⟨O.heap.size,0,none⟩) 1 1 [.slice A1 x.len c1] rfl (Row.new O #[.slice A1 x.len c1] 26 rfl) (by simp[Value.oneCell']) (pre.length+1) _ rfl rfl (by unfold maxLen;omega) o_ ?_
       intro A3 c3 w3 H U _ _ _;have HW:=H_ (c_ H U);clear H U;have Z:Boxed O w.heap.size 98 v:=(C.out.block _ HV.out.lt).trans HV.out;obtain⟨I,Q,a2,a0,a1⟩:=Z.appended (by decide) (own_base (own_below J.out C.out) (aw_ _ 3)) (by have:=C.out.size;omega) l_ (own_base HW.out.1 (aw_ _ 3)) HW.out.2;have b5:=I.cell;have b6:=I.frozen;have HX:=H_ (c_ I (c_ Q (c_ a0 a1)));clear I Q a2 a0 a1 Z;refine E _ _ ?_;clear E K;refine wpAnyIn_ready (rs:=[5]) (by kernel_rfl) s_ ?_;refine AllReadyIn.cons rfl (fun K E=>?_) ?_
       ·go_simp
        refine E _ _ ?_;clear E K;refine wpAnyIn_done (by kernel_rfl) ?_ _
        gi_wp2
        exact oy1 _ HW.out.1 HW.out.2 C.out a'.out b0.out HX.out d1.out J.out d0 d2.out
       exact AllReadyIn.nil
      exact AllReadyIn.nil
     exact AllReadyIn.nil
    refine AllReadyIn.cons rfl (fun K E=>?_) ?_
    ·go_simp
     refine E _ _ ?_;clear E K;refine wpAnyIn_ready (rs:=[0]) (by kernel_rfl) s_ ?_;refine AllReadyIn.cons rfl (fun K E=>?_) ?_
     ·go_simp
      refine E _ _ ?_;clear E K;refine wpAnyIn_ready (rs:=[4]) (by kernel_rfl) s_ ?_;refine AllReadyIn.cons rfl (fun K E=>?_) ?_
      ·refine mz1 rfl (.tmp 13) (.tmp 16) _ rfl (w.heap.size+3) 26 i0 _ 1 24 underlying98 b8 b9 b' c9 rfl o_ (by have:=C.out.size;rw[Q_];omega) v pre.length vs rfl ((own_below J.out C.out).alloc _) _ (some ⟨O.heap.size,0,none⟩) 1 1 [.slice A1 x.len c1] rfl (Row.new O #[.slice A1 x.len c1] 26 rfl) (by simp[Value.oneCell']) (pre.length+1) _ rfl rfl (by unfold maxLen;omega) o_ ?_
       intro A3 c3 w3 H U _ _ _;have HW:=H_ (c_ H U);clear H U;have Z:Boxed O w.heap.size 98 v:=(C.out.block _ HV.out.lt).trans HV.out;obtain⟨I,Q,a2,a0,a1⟩:=Z.appended (by decide) (own_base (own_below J.out C.out) (aw_ _ 3)) (by have:=C.out.size;omega) l_ (own_base HW.out.1 (aw_ _ 3)) HW.out.2;have b5:=I.cell;have b6:=I.frozen;have HX:=H_ (c_ I (c_ Q (c_ a0 a1)));clear I Q a2 a0 a1 Z;refine E _ _ ?_;clear E K;refine wpAnyIn_ready (rs:=[5]) (by kernel_rfl) s_ ?_;refine AllReadyIn.cons rfl (fun K E=>?_) ?_
       ·go_simp
        refine E _ _ ?_;clear E K;refine wpAnyIn_done (by kernel_rfl) ?_ _
        gi_wp2
        exact oy1 _ HW.out.1 HW.out.2 C.out a'.out b0.out HX.out d1.out J.out d0 d2.out
       exact AllReadyIn.nil
      exact AllReadyIn.nil
     exact AllReadyIn.nil
    exact AllReadyIn.nil
   exact AllReadyIn.nil
  exact AllReadyIn.nil
 case done=>
  rintro D ys W hD g5 ⟨⟨_,v,hv,e7⟩,hB⟩ E;have hc:=hv.cell
  gi_wp2
  have e9:=e7.kept (grownBy_putObj' W D (.deferred none)) (fun r e cs fr=>by cases e;rw[E];exact⟨nofun,nofun⟩);obtain⟨A',k',c',rfl,f5,f6⟩:∃A' k c',v=.slice A' k c'/\k<=c'/\c'<=maxLen:=by
   obtain⟨vs,h1,_⟩:=e7;obtain⟨A',c',e,h2,h3,_⟩:=gz h1;exact⟨_,_,_,e,h2,h3⟩
  obtain⟨i8,d6⟩:=e9.rows;refine⟨by simp,.inl ⟨_,_,rfl,run_takeDeferred E,?_⟩⟩;exact⟨_,results_tmp rfl _ _ _,A',k',c',rfl,f5,f6,by rw[<-g5];exact d6,hB.trans (belowK_b (w:=w) l_ W D _ _ (by simp at hD;omega) E rfl rfl)⟩
 case stop=>
  rintro D c pre W _ _ h _;exact h.elim
end
section
variable {m:Nat} {X X1:Dw} {w w1 w2:World} {S S1:Sd} {M M1:Ms}
theorem cv3 (n:Int):(Mw.headB n).length<=200:=by
 have h1:=Pn.jq n.toNat;simp only[Mw.headB,Fr.vk];omega
def sCur:ByteArray:=⟨#[99,117,114,114,101,110,116]⟩
def tx2:ByteArray:=⟨#[99,117,114,114,101,110,116,46,116,109,112]⟩
def sMan:ByteArray:=⟨#[109,97,110]⟩
theorem lk4:sCur.data.toList=Mw.kCur:=rfl
theorem py1:tx2.data.toList=Mw.jw:=rfl
theorem gk2:sMan.data.toList=Mn.kMan:=rfl
theorem jq4 (o:Option Int):numV o=.tuple #[.int .i64 (o.getD 0),.bool o.isSome]:=by cases o<;>rfl
theorem ez3 (s:List UInt8):∃k:Nat,(Mn.number s Mn.kMan).getD 0=(k:Int)/\k<=1073741824:=by
 cases h:Mn.number s Mn.kMan with
 |none=>exact⟨0,rfl,o_⟩
 |some v=>
  have hs:s≠[]:=fun e=>by
   subst e;unfold Mn.number at h;rw[if_neg (by decide)]at h
   cases h
  have:=Mn.lv1 h hs;exact⟨v.toNat,by simp;omega,o_⟩
theorem vv5 (n:Int):(Mn.name Mn.kMan n).length<=1000:=by
 by_cases C:Mn.name Mn.kMan n=[]
 ·rw[C];simp
 ·have:=Mn.xx2 C
  omega
end
section
namespace Mw
open Mn
def man (n:Nat):List UInt8:=name kMan n
theorem eq2 {n:Nat} (h1:1<=n) (h2:n<=1073741824):(fits n&&isKind kMan)=true:=by
 have:isKind kMan=true:=by decide
 rw[this];simp[fits];omega
theorem bz4 {n:Nat} (h1:1<=n) (h2:n<=1073741824):man n=[109,97,110,46] ++Lib.decDigits n:=by
 rw[man,yx (eq2 h1 h2)];rfl
theorem dv2 {n:Nat} (h1:1<=n) (h2:n<=1073741824):Sd.named (man n)=true:=cw1 (eq2 h1 h2)
theorem ww2 {n:Nat} (h1:1<=n) (h2:n<=1073741824):man n≠jw:=by
 rw[bz4 h1 h2];simp[jw]
theorem tw2:kCur≠jw:=by decide
theorem zz1 {n:Nat} (h1:1<=n) (h2:n<=1073741824):number (man n) kMan=some (n:Int):=fx1 (eq2 h1 h2)
theorem xw1:number kCur kMan=none:=by
 unfold number;rw[if_neg (by decide)]
theorem qx1 (nm:List UInt8):∀(l:List (List UInt8)) (d:Sd),(∀s∈l,(number s kMan).isSome=true->s=nm)->sweep nm l d=d
 |[],d,_=>rfl
 |o::r,d,h=>by
  rw[sweep];have:((number o kMan).isSome&&!(o==nm))=false:=by
   cases C:(number o kMan).isSome with
   |false=>rfl
   |true=>
    have:=h o s_ C;simp[this]
  rw[this];exact qx1 nm r d (fun s hs=>h s (by simp[hs]))
theorem gx2:Sd.named kCur=true:=by decide
theorem iz1:Sd.named jw=true:=by decide
end Mw
structure At (W0 w:World) (X:Dw) (S:Sd) (m:Nat) (M:Ms):Prop where
 dm:Dm w X S
 man:MK w m X.d M
 away:m∉X.foot
 low:∀g∈X.foot,W0.heap.size<=g
 lowm:W0.heap.size<=m
 bel:Below W0.heap.size W0 w
variable {W0 w w1 w2:World} {X X1:Dw} {S S1:Sd} {m m1:Nat} {M M1:Ms}
namespace Mw
open Mn
theorem yx1 (nm:List UInt8):∀(l:List (List UInt8)) (d:Sd),(sweep nm l d).load<=d.load+l.length
 |[],d=>y_ _
 |o::r,d=>by
  rw[sweep];have h:=yx1 nm r;split
  ·have h1:=h (d.remove o).1
   have h2:=Sd.cx1 d o;simp only[q_];omega
  ·have h1:=h d
   simp only[q_];omega
end Mw
end
namespace Gw
open Mn
open Mw (kCur jw headB sweep man dv2 ww2 tw2 gx2 iz1 zz1 xw1 qx1)
end Gw
section
end
section
theorem qk4 {n:Nat} (h:n < 18446744073709551616):-9223372036854775808<=qy1 n/\qy1 n < 9223372036854775808:=by
 unfold qy1;split<;>omega
namespace It
theorem rj4 (b:List UInt8) (h:(take1 b).2.2=0):(take1 b).1.fit:=by
 have C:It.fit ⟨0,0,0,0,0⟩:=by unfold It.fit;exact⟨by decide,by decide⟩
 unfold take1 at h ⊢;split
 ·exact C
 ·split
  ·split
   ·split
    ·rename_i x E e
     have h1:∀q,Pn.take q=(x,E,0)->x < 18446744073709551616:=fun q H=>by
      have:=Pn.mv4 q;rw[H]at this;exact this
     exact qk4 (h1 _ e)
    ·exact C
   ·exact C
  ·exact C
theorem bz3:∀(n:Nat) (b:List UInt8) (out:List It),(∀y∈out,y.fit)->∀y∈(takes n b out).1,y.fit
 |0,b,out,h=>h
 |n+1,b,out,h=>by
  unfold takes;split
  ·rename_i x r e
   refine bz3 n r _ (fun y C=>?_)
   rcases k_.1 C with h1|h1
   ·exact h y h1
   ·rw[a_.1 h1]
    have:=rj4 b (by rw[e]);rw[e]at this;exact this
  ·intro y C
   simp at C
theorem fj5 (b:List UInt8):∀y∈(read b).1,y.fit:=by
 unfold read;split
 ·split
  ·intro y C
   simp at C
  ·split
   ·rename_i out r e
    split
    ·intro y C
     have h2:=bz3 _ _ [] (fun y h=>by simp at h) y (by rw[e];exact C);exact h2
    ·intro y C
     simp at C
   ·intro y C
    simp at C
 ·intro y C
  simp at C
end It
attribute [local go_sem] Oper.semAt_some
section
variable {F:Fence} {n:Nat} {P:Program}
def oq5 {α:Type} (F:Fence) (n:Nat) (P:Program) (gf:Nat) (lb:Array Value) (encs:α->Array Value) (Kp:World->World->Prop) (S Sp:List α->Prop) (Nx:List α->α->Prop) (N:Nat) (w0:World):Prop:=
 ∀(l:Nat) (J Jx:List α->World->Prop) (W:World),Below w0.heap.size w0 W->(∀pre W,J pre W->J pre W.drew)->
  (∀pre x W,J pre W->pre.length < N->Nx pre x->YieldAt F (n - 1) P l (encs x) W fun e W'=>(e=.returned (.bool true)/\J (pre++[x]) W'/\Kp W W')\/(e=.returned (.bool false)/\Jx (pre++[x]) W'))->J [] W->
  CallsIn F n P gf (#[.func (.yield l) #[] #[]] ++lb) W fun e W'=>(∃v,e=.returned v)/\((∃ys,S ys/\J ys W')\/(∃pre,Sp pre/\Jx pre W'))
theorem ry1 {B l:Nat} {W:World} (C:l=B\/l=B+1) (o:Obj):Chg [B,B+1] W (W.putObj l o):=⟨rfl,rfl,rfl,by simp,fun g _ E=>aa_ (fun e=>E (by subst e;rcases C with rfl|rfl<;>simp))⟩
def nz2 (B:Nat) (W W':World):Prop:=W'.heap[B]?=W.heap[B]?/\W'.heap[B+1]?=W.heap[B+1]?
def sz3 {α:Type} (B:Nat) (Kp:World->World->Prop) (I:List α->World->Prop) (Ix:Code->List α->World->Prop) (xs:List α) (W:World):Exit->Act->World->Prop
 |.normal,_,W'=>nz2 B W W'/\Kp W W'/\I xs W'
 |.ret,_,W'=>nz2 B W W'/\Ix .ret xs W'
 |.exit id,_,W'=>nz2 B W W'/\Ix (.exit id) xs W'
 |.goto t,_,W'=>nz2 B W W'/\Ix (.goto t) xs W'
 |.panic _,_,_=>False
 |.outgrown,_,_=>False
def gy1 (B:Nat) (W:World):Prop:=W.heap[B]?=some (.deferred (some []))/\∃r,W.heap[B+1]?=some (.loop r)
theorem tz1 {α:Type} {g:Operand} {ps:Array Tmp} {assign body:Code} {Q:Exit->Act->World->Prop} {a:Act} {w:World}
  (d3:F.round=none) (h1:1<=n) {gf:Nat} {lb:Array Value} (hg:a.eval g=.func (.func gf) #[] lb) (d4:F.fn gf) (eg:∀args w,(callFunc gf args).run P w=.ok (.enter gf args) w)
  {encs:α->Array Value} {Kp:World->World->Prop} {S Sp:List α->Prop} {Nx:List α->α->Prop} {N:Nat} {w0:World} (b6:oq5 F (n - 1) P gf lb encs Kp S Sp Nx N w0)
  (b7:∀{A B C:World},Kp A B->Kp B C->Kp A C) (hKb:∀(W:World) (l:Nat) (o':Obj),w.heap.size<=l->Kp W (W.putObj l o')) (b8:Below w0.heap.size w0 w) (d5:∀x,(encs x).size=ps.size)
  (I:List α->World->Prop) (Ix:Code->List α->World->Prop) (hI:∀s W W',I s W->Chg [w.heap.size,w.heap.size+1] W W'->gy1 w.heap.size W'->I s W') (hIx:∀c s W W',Ix c s W->Chg [w.heap.size,w.heap.size+1] W W'->gy1 w.heap.size W'->Ix c s W') (h0:I [] w) (a₁:α->Act)
  (a2:∀(l:Nat) (x:α) (W:World) (K:Act->World->Prop),K (a₁ x) W->
   assign.wpIn (F.inRound l) (n - 1 - 1) P (Exit.then K (fun _ _ _=>False)) { tmps:=(ps.zip (encs x)).foldl (fun t (p,v)=>t.setIfInBounds p v) a.tmps,defers:=[] } W)
  (a8:∀(l:Nat) (pre:List α) (x:α) (W:World),gy1 w.heap.size W->I pre W->pre.length < N->Nx pre x->body.wpIn (F.inRound l) (n - 1 - 1) P (sz3 w.heap.size Kp I Ix (pre++[x]) W) (a₁ x) W)
  (a9:∀(D:Nat) (xs:List α) (W:World),w.heap.size<=D->S xs->I xs W->W.heap[D]?=some (.deferred (some []))->D=w.heap.size->Q .normal { a with defers:={ target:=.collected D,args:=#[] }::a.defers } W)
  (a':∀(D:Nat) (c:Code) (pre:List α) (W:World),w.heap.size<=D->Sp pre->Ix c pre W->W.heap[D]?=some (.deferred (some []))->D=w.heap.size->c.wpIn F n P Q { a with defers:={ target:=.collected D,args:=#[] }::a.defers } W):
  (Code.rangeFunc g ps assign body).wpIn F n P Q a w:=by
 refine wpIn_rangeFunc ?_;intro fn d6;rw[d3];obtain⟨rec,E⟩:∃rec:LoopState->Option Code->Loop,rec=fun st pe=>{ state:=st,pending:=pe,fn,tmps:=a.tmps,params:=ps,assign,body,defers:=w.heap.size }:=⟨_,rfl⟩;obtain⟨W1,a4⟩:∃W1,(w.alloc (.deferred (some []))).alloc (.loop (rec .ready none))=W1:=⟨_,rfl⟩;have b':W1.heap[w.heap.size+1]?=some (.loop (rec .ready none)):=by
  rw[<-a4];have:=bD_ (w.alloc (.deferred (some []))) (.loop (rec .ready none));rwa [Q_]at this
 have c9:W1.heap[w.heap.size]?=some (.deferred (some [])):=by
  rw[<-a4];exact(Below.heap_alloc _ _ _ s_).trans (bD_ w _)
 have c':Below w.heap.size w W1:=by
  rw[<-a4];exact((Below.refl _ w).alloc l_ _).alloc s_ _
 have d7:I [] W1:=hI [] w W1 h0 (Chg.of_below c' _) ⟨c9,_,b'⟩;have d8:Below w0.heap.size w0 W1:=b8.trans (c'.mono b8.size);refine⟨w.heap.size+1,[{ target:=.collected w.heap.size,args:=#[] }],W1,{ target:=.fn (.func gf) lb,args:=#[.func (.yield (w.heap.size+1)) #[] #[]] },W1,gf,
  #[.func (.yield (w.heap.size+1)) #[] #[]] ++lb,W1,?_,?_,?_,?_,fun _=>h1,?_⟩
 ·rw[<-a4,E];exact run_enterLoop_outer _ _ _ _ _
 ·simp only[resolve,hg]
  simp[go_sem]
 ·intro f' d0;simp[Target.leads]at d0;subst d0;exact d4
 ·simp[invoke,go_sem,eg]
 ·refine(b6 (w.heap.size+1)
   (fun pre W=>I pre W/\W.heap[w.heap.size+1]?=some (.loop (rec .ready none))/\W.heap[w.heap.size]?=some (.deferred (some [])))
   (fun pre W=>∃c,Ix c pre W/\W.heap[w.heap.size+1]?=some (.loop (rec .done (some c)))/\W.heap[w.heap.size]?=some (.deferred (some [])))
   W1 d8 (fun s A hs=>⟨hI s A _ hs.1 ⟨rfl,rfl,rfl,y_ _,fun _ _ _=>rfl⟩ ⟨hs.2.2,_,hs.2.1⟩,hs.2⟩) ?_ ⟨d7,b',c9⟩).mono ?_
  ·rintro pre x W ⟨hi,hl,hk⟩ d1 d9
   have d':w.heap.size+1 < W.heap.size:=(A_.1 hl).1;have hy:=run_yield (P:=P) (args:=encs x) hl (by rw[E];exact d5 x);rw[E]at hy;refine⟨fn,_,assign,body,hy,roundIn_of_wpIn d6 (a2 _ x W _ ⟨_,run_beginRound hl (by rw[E]),?_⟩)⟩;have b1:(W.putObj (w.heap.size+1) (.loop { rec .ready none with state:=.busy })).heap[w.heap.size+1]?=some (.loop { rec .ready none with state:=.busy }):=by_ d';have b2:(W.putObj (w.heap.size+1) (.loop { rec .ready none with state:=.busy })).heap[w.heap.size]?=some (.deferred (some [])):=(aa_ o_).trans hk;have e0:Kp W (W.putObj (w.heap.size+1) (.loop { rec .ready none with state:=.busy })):=hKb _ _ _ o_;refine wpIn_mono (a8 _ pre x _ ⟨b2,_,b1⟩ (hI _ _ _ hi (ry1 (.inr rfl) _) ⟨b2,_,b1⟩) d1 d9) ?_;have fin:∀(jump:Option Code) (W3:World),nz2 w.heap.size (W.putObj (w.heap.size+1) (.loop { rec .ready none with state:=.busy })) W3->
     (Instr.endRound (w.heap.size+1) jump).run P W3=.ok (.bool jump.isNone) (W3.putObj (w.heap.size+1) (.loop (rec (if jump.isNone then .ready else .done) jump)))/\
     W3.heap[w.heap.size+1]?=some (.loop { rec .ready none with state:=.busy })/\
     (W3.putObj (w.heap.size+1) (.loop (rec (if jump.isNone then .ready else .done) jump))).heap[w.heap.size+1]?=some (.loop (rec (if jump.isNone then .ready else .done) jump))/\
     (W3.putObj (w.heap.size+1) (.loop (rec (if jump.isNone then .ready else .done) jump))).heap[w.heap.size]?=some (.deferred (some [])):=fun jump W3 O=>by
    have U:=O.2.trans b1;have:=run_endRound (P:=P) jump U;rw[E]at this ⊢;exact⟨this,by rw[E]at U;exact U,by_ (A_.1 U).1,(aa_ o_).trans (O.1.trans b2)⟩
   rintro e a3 W3 hp
   cases e with
   |normal=>
    obtain⟨O,d2,Z⟩:=hp;obtain⟨hr,U,H,J⟩:=fin none W3 O;exact⟨_,_,hr,.inl ⟨rfl,⟨hI _ _ _ Z (ry1 (.inr rfl) _) ⟨J,_,H⟩,H,J⟩,b7 (b7 e0 d2) (hKb _ _ _ o_)⟩⟩
   |ret=>
    obtain⟨O,Z⟩:=hp;obtain⟨hr,U,H,J⟩:=fin (some .ret) W3 O;exact⟨_,_,hr,.inr ⟨rfl,.ret,hIx _ _ _ _ Z (ry1 (.inr rfl) _) ⟨J,_,H⟩,H,J⟩⟩
   |exit id=>
    obtain⟨O,Z⟩:=hp;obtain⟨hr,U,H,J⟩:=fin (some (.exit id)) W3 O;exact⟨_,_,hr,.inr ⟨rfl,.exit id,hIx _ _ _ _ Z (ry1 (.inr rfl) _) ⟨J,_,H⟩,H,J⟩⟩
   |goto t=>
    obtain⟨O,Z⟩:=hp;obtain⟨hr,U,H,J⟩:=fin (some (.goto t)) W3 O;exact⟨_,_,hr,.inr ⟨rfl,.goto t,hIx _ _ _ _ Z (ry1 (.inr rfl) _) ⟨J,_,H⟩,H,J⟩⟩
   |panic ch=>exact hp.elim
   |outgrown=>exact hp.elim
  ·rintro e W2 ⟨⟨v,rfl⟩,(⟨xs,hS,hi,hl,hk⟩|⟨pre,e1,c,hi,hl,hk⟩)⟩
   ·exact⟨none,_,by have:=run_endLoop (P:=P) hl (by rw[E];simp);rw[E]at this;exact this,a9 _ xs _ l_ hS (hI _ _ _ hi (ry1 (.inr rfl) _) ⟨(aa_ o_).trans hk,_,by_ (A_.1 hl).1⟩) ((aa_ o_).trans hk) rfl⟩
   ·exact⟨some c,_,by have:=run_endLoop (P:=P) hl (by rw[E];simp);rw[E]at this;exact this,a' _ c pre _ l_ e1 (hIx _ _ _ _ hi (ry1 (.inr rfl) _) ⟨(aa_ o_).trans hk,_,by_ (A_.1 hl).1⟩) ((aa_ o_).trans hk) rfl⟩
end
theorem pz4 (F:Fence) (n:Nat) (h7:F.fn 166) (H:F.round=none) (hn:1<=n) (C E:Nat) (Q:World->World->Prop) (U:∀W Z,Q W Z->Z.cell? ⟨C,0,none⟩=W.cell? ⟨C,0,none⟩/\Z.cell? ⟨E,0,none⟩=W.cell? ⟨E,0,none⟩) (p:Addr) (A:Option Addr) (len cap m:Nat) (hA:0 < len->A=some p) (L:List It) (hL:L.length=len) (hm:1<=m) (a0:m<=1000) (I:len<=100000) (O:len<=cap) {N:Nat} (hN:∀k,k *m < len->k < N) (w:World) (a1:C < w.heap.size) (a2:E < w.heap.size)
  (a4:w.cell? ⟨C,0,none⟩=some (.slice A len cap)) (a5:w.cell? ⟨E,0,none⟩=some (.int .i64 (m:Int))):
  oq5 F n Tryz.prog 166 #[.pointer (some ⟨C,0,none⟩),.pointer (some ⟨E,0,none⟩)] (fun x:Ck m len=>#[Ck.val p x]) Q (fun ys=>ys.map (Ck.of L)=Tb.cut m len L) (fun _=>True) (fun pre x=>x.1=pre.length) N w:=fun l J Jx W hW a6 hY h0=>by
 have c1:=(hW.cell (p:=⟨C,0,none⟩) a1).trans a4;have c2:=(hW.cell (p:=⟨E,0,none⟩) a2).trans a5
 rcases ao_ len with h|h
 ·subst h
  exact(vq1 F n h7 H l C E cap A (fun W=>J [] W) W c1 h0).mono fun _ _ ⟨he,hj⟩=>⟨he,.inl ⟨[],by simp[Tb.cut],hj⟩⟩
 ·rw[hA h]at c1
  exact(zq2 F n h7 H hn l C E Q U p len cap m L hL hm a0 I O J Jx a6 (fun pre x W hj hl hx=>hY pre x W hj (hN _ hl) hx) W c1 c2 h0).mono fun _ _ ⟨he,h⟩=>⟨he,h.imp id fun⟨pre,h1⟩=>⟨pre,trivial,h1⟩⟩
theorem pj3 {m:Nat} (I:1<=m):∀(f:Nat) (L:List It),L.length<=f->∀k,k *m < L.length->(Tb.cut m f L)[k]?=some ((L.drop (k *m)).take m)
 |0,L,J,k,C=>o_
 |f+1,L,J,k,C=>by
  have E:L≠[]:=fun e=>by rw[e]at C;simp at C
  unfold Tb.cut;rw[if_neg E]
  cases k with
  |zero=>simp
  |succ k=>
   have H:(k+1)*m=k *m+m:=cv_ k m;rw[gE1,pj3 I f (L.drop m) (by rw[I_];omega) k (by rw[I_];omega),aZ_,H,Nat.add_comm]
theorem gy1.lt {B:Nat} {w:World} (h:gy1 B w):B+1 < w.heap.size:=let ⟨_,_,h2⟩:=h;(A_.1 h2).1
theorem cv5 {m len:Nat} (C:1<=m) {L:List It} (H:L.length=len) {pre:List (Ck m len)} {x:Ck m len} (E:x.1=pre.length) (h:pre.map (Ck.of L)=(Tb.cut m len L).take pre.length):(pre++[x]).map (Ck.of L)=(Tb.cut m len L).take (pre++[x]).length:=by
 have h1:=pj3 C len L o_ x.1 (by have:=x.2;omega);rw[am_,h,d_,ad_,<-E];obtain⟨h2,h3⟩:=J_.1 h1;rw[r_ h2,h3];rfl
end
theorem fw5 (K:Nat) (hF:∀args w,(callFunc K args).run prog w=.ok (.enter K args) w) (cap:Array Value) (P:List UInt8->Bool) (A:Option Addr) (n c:Nat) (l:List (List UInt8)) (w:World) (hn:n<=1000000) (hr:Row w.heap.size w A n 1 (l.map Go.Proofs.encStr))
  (hK:∀x H,x∈l->Below w.heap.size w H->Calls prog K (#[.string (str x)] ++cap) H fun e w'=>e=.returned (.bool (P x))/\Below H.heap.size H w'):
  Calls prog 167 #[.slice A n c,.func (.func K) #[] cap] w fun e w'=>e=.returned (.int .i64 (fidx P l))/\Below w.heap.size w w':=by
 have I:n=l.length:=by
  have:=hr.len;simp at this;omega
 have HK:=H_ hK;have HF:=H_ hF;have Q:=H_ I;clear hK hF I;go_enter func167,ntmps167;go_wp2
 go_loopw [8] (fun i wr=>∃k:Nat,k<=n/\i=.int .i64 (k:Int)/\Hid ((l.take k).any P=false)/\Below w.heap.size w wr) (fun i _=>n - (intOf i).toNat)
 case atStart=>exact⟨0,w_ _,rfl,H_ rfl,Below.refl _ _⟩
 case round=>
  obtain⟨k,hk,rfl,U,C⟩:=hrel
  by_cases Z:k < n
  ·obtain⟨a,O,rfl,a',c0⟩:=(hr.below C).enc Z
   have ht:=kv1 (P:=P) O;have hs:=fun h1=>iq1 (P:=P) O U.out h1;have hc:=HK.out l[k] wr (u_ O) C;generalize l[k]=f at *;have HT:=H_ ht;have HS:=H_ hs;clear ht hs O;generalize hp:P f=p at hc;have HP:=H_ hp;clear hp;go_wp2_with fail;rw[HF.out,Oper.upon_enter];refine hc.mono ?_;rintro e H ⟨rfl,J⟩
   cases p with
   |true=>
    go_wp2;go_ret;exact⟨aw2 (HS.out HP.out).symm,az C J⟩
   |false=>
    go_wp2;go_roundw
    case rel=>exact⟨k+1,o_,by go_num,H_ (by rw[HT.out,U.out,HP.out];rfl),az C J⟩
    case measure=>simp[intOf];omega
  ·have E:fidx P l=-1:=bj1 (by
    have a0:=U.out
    rwa [g_ (by have:=Q.out;omega)]at a0)
   have HA:=H_ E;clear E;go_wp2;go_ret;exact⟨aw2 HA.out.symm,C⟩
theorem sj3 (K:Nat) (hF:∀args w,(callFunc K args).run prog w=.ok (.enter K args) w) (cap:Array Value) (P:List UInt8->Bool) (A:Option Addr) (n c:Nat) (l:List (List UInt8)) (w:World) (O:n<=1000000) (Q:Row w.heap.size w A n 1 (l.map Go.Proofs.encStr))
  (I:∀x C,x∈l->Below w.heap.size w C->Calls prog K (#[.string (str x)] ++cap) C fun e w'=>e=.returned (.bool (P x))/\Below C.heap.size C w'):
  Calls prog 106 #[.slice A n c,.func (.func K) #[] cap] w fun e w'=>e=.returned (.bool (l.any P))/\Below w.heap.size w w':=by
 have E:=ij2 P l;have J:=fw5 K hF cap P A n c l w O Q I;clear I;generalize fidx P l=i at *;have H:=H_ E;clear E;go_enter func106,ntmps106;go_wp2_with fail;refine J.mono ?_;rintro e C ⟨rfl,U⟩;clear J;go_wp2;go_ret;exact⟨kk1 H.out,U⟩
theorem ez2 (x l:List UInt8):((str x).toList==l)=(x==l):=by
 rw[ByteArray.toList_eq];rfl
theorem ey5 (x k:List UInt8) (J:x.length<=1000) (O:k.length<=1000) (g:Nat) (w:World) (h:Env w) (Q:w.cell? ⟨g,0,none⟩=some (.string (str x))):
  Calls prog 171 #[.string (str k),.pointer (some ⟨g,0,none⟩)] w fun e w'=>e=.returned (.bool (Mn.number x k).isSome)/\Below w.heap.size w w':=by
 have C:=px1 (str x) (str k) (by rw[ny];omega) (by rw[ny];omega) w h;rw[oz,oz]at C;obtain⟨o,H⟩:=n_ (Mn.number x k);rw[<-H]at C ⊢;have E:=H_ C;clear C H h;unfold numV at E
 cases o<;>
 ·simp only at E
  go_enter func171,ntmps171;go_wp2_with fail;refine E.out.mono ?_;rintro e U ⟨rfl,I⟩;go_wp2;go_ret;exact⟨rfl,I⟩
theorem aq3 (x:List UInt8) (hx:x.length<=1000) (w:World) (h:Env w):
  Calls prog 110 #[.string (str x)] w fun e w'=>e=.returned (.bool (St.dy1 x))/\Below w.heap.size w w':=by
 have Z:((str x).toList==[99,117,114,114,101,110,116])=(x==Mw.kCur):=ez2 x Mw.kCur;have e2:((str x).toList==[99,117,114,114,101,110,116,46,116,109,112])=(x==Mw.jw):=ez2 x Mw.jw;have E:St.dy1 x=((x==Mw.kCur||x==Mw.jw)||[Mn.kLog,Mn.kTab,Mn.kMan].any fun k=>(Mn.number x k).isSome):=rfl;generalize St.dy1 x=R at *;have U:=b_ w (.cells #[.string (str x)] 9);have H:∀V e,Below w.heap.size w V->V.cell? ⟨w.heap.size,0,none⟩=some (.string (str x))->BoxO V e (w.heap.size+1) [.string (str Mn.kLog),.string (str Mn.kTab),.string (str Mn.kMan)]->
   Calls prog 106 #[.slice (some ⟨w.heap.size+1,0,none⟩) 3 3,.func (.func 171) #[] #[.pointer (some ⟨w.heap.size,0,none⟩)]] V fun e w'=>e=.returned (.bool ([Mn.kLog,Mn.kTab,Mn.kMan].any fun k=>(Mn.number x k).isSome))/\Below V.heap.size V w':=by
  intro V e hb hc I;have hr:Row V.heap.size V (some ⟨w.heap.size+1,0,none⟩) 3 1 ([Mn.kLog,Mn.kTab,Mn.kMan].map Go.Proofs.encStr):=⟨rfl,fun j hj=>⟨_,rfl,I.lt,by
   have h1:=I.cell j;have e0:(⟨w.heap.size+1,0,none⟩:Addr).add j=⟨w.heap.size+1,j,none⟩:=by
    simp[Addr.add];omega
   rw[e0,h1];exact h_ hj⟩⟩
  refine sj3 171 (fun _ _=>rfl) _ _ _ 3 3 _ V o_ hr ?_;intro k w1 hk C;have a1:k.length<=1000:=by
   simp only[f_,ct_,or_false]at hk
   rcases hk with rfl|rfl|rfl<;>decide
  have a2:w.heap.size < V.heap.size:=by have:=I.lt;omega
  exact ey5 x k hx a1 w.heap.size w1 ((h.below hb).below C) ((C.cell (p:=⟨w.heap.size,0,none⟩) a2).trans hc)
 have HC:=H_ H;clear H h
 cases C:(x==Mw.kCur) with
 |true=>
  rw[C]at Z E;have O:=H_ E;clear E e2 HC;go_enter func110,ntmps110;go_wp2;go_ret;exact⟨by rw[O.out];rfl,U⟩
 |false=>
  cases Q:(x==Mw.jw) with
  |true=>
   rw[C]at Z E;rw[Q]at e2 E;have O:=H_ E;clear E HC;go_enter func110,ntmps110;go_wp2;go_ret;exact⟨by rw[O.out];rfl,U⟩
  |false=>
   rw[C]at Z E;rw[Q]at e2 E;generalize ([Mn.kLog,Mn.kTab,Mn.kMan].any fun k=>(Mn.number x k).isSome)=q at *;have O:=H_ E;clear E;go_enter func110,ntmps110;go_wp2_with fail;have J:=U.alloc U.size (.cells #[.string (str Mn.kLog),.string (str Mn.kTab),.string (str Mn.kMan)] 9);refine(HC.out _ 9 J s_ (by
    have:=BoxO.new (w.alloc (.cells #[.string (str x)] 9)) #[.string (str Mn.kLog),.string (str Mn.kTab),.string (str Mn.kMan)] 9;simpa using this)).mono ?_
   rintro e w1 ⟨rfl,C⟩;have a5:=az J C;clear J;go_wp2;go_ret;exact⟨by rw[O.out];rfl,a5⟩
theorem dj5 (X:Dw) (S:Sd) (x:List UInt8) (hx:x.length<=1000) (g:Nat) (w:World) (h:Dm w X S) (hc:w.cell? ⟨g,0,none⟩=some (.pointer (some ⟨X.d,0,none⟩))):
  Calls prog 108 #[.string (str x),.pointer (some ⟨g,0,none⟩)] w fun e w'=>e=.returned (.bool (St.dy1 x&&!St.isNone S x))/\Below w.heap.size w w':=by
 have e1:((str x).toList==[99,117,114,114,101,110,116,46,116,109,112])=(x==Mw.jw):=ez2 x Mw.jw;have e2:((str x).toList==[109,97,110,46,49])=(x==St.ow4):=ez2 x St.ow4;have e3:((str x).toList==[108,111,103,46,49])=(x==St.ry):=ez2 x St.ry;have C:=(Acc.start (F:=[]) h).read (str x) (by rw[ny];unfold maxLen;omega);rw[oz]at C;have H:=fun W hb=>aq3 x hx W (h.env.below (w':=W) hb);have O:(St.dy1 x&&!St.isNone S x)=(St.dy1 x&&!((x==Mw.jw||x==St.ow4)||(x==St.ry&&(S.read x).1.length==0))):=rfl;obtain⟨R,I⟩:=n_ ((St.dy1 x&&!St.isNone S x));rw[<-I]at O ⊢;generalize St.dy1 x=o at *;obtain⟨n,hn⟩:=n_ ((S.read x).1.length);rw[<-hn]at C O;have e4:((n:Int)==0)=(n==0):=by
  rw[cb_];simp
 generalize (S.read x).2=er at *;have Q:Hid (Calls prog 109 #[.pointer (some ⟨X.d,0,none⟩),.string (str x)] w fun e w'=>∃A c,e=.returned (.tuple #[.slice A n c,.int .i64 (er:Int)])/\Below w.heap.size w w'):=H_ (C.mono fun _ _ ⟨A,c,h1,_,h2⟩=>⟨A,c,h1,h2⟩);have U:=H_ H;clear C H h hn I;generalize (x==Mw.jw)=b1 at *;generalize (x==St.ow4)=b2 at *;generalize (x==St.ry)=b3 at *;generalize (n==0)=b4 at *;have HR:=H_ O;clear O
 cases o<;>cases b1<;>cases b2<;>cases b3<;>cases b4
 all_goals
 ·go_enter func108,ntmps108
  go_wp2_with fail;refine Q.out.mono ?_;rintro e w1 ⟨A,c,rfl,E⟩;go_wp2_with fail;refine(U.out _ E).mono ?_;rintro e w2 ⟨rfl,J⟩;have Z:=az E J;clear E J;go_wp2;go_ret;exact⟨by rw[HR.out];rfl,Z⟩
theorem wk4 (X:Dw) (S:Sd) (w:World) (h:Dm w X S):
  Calls prog 45 #[.pointer (some ⟨X.d,0,none⟩)] w fun e w'=>e=.returned (.bool (St.pq4 S))/\Below w.heap.size w w':=by
 have O:=b_ w (.cells #[.pointer (some ⟨X.d,0,none⟩)] 36);have hp:(w.alloc (.cells #[.pointer (some ⟨X.d,0,none⟩)] 36)).cell? ⟨w.heap.size,0,none⟩=some (.pointer (some ⟨X.d,0,none⟩)):=by simp
 have I:w.heap.size < (w.alloc (.cells #[.pointer (some ⟨X.d,0,none⟩)] 36)).heap.size:=by simp
 obtain⟨W,Q⟩:=n_ (w.alloc (.cells #[.pointer (some ⟨X.d,0,none⟩)] 36));rw[<-Q]at O hp I;have h1:=h.below O;have J:=(Acc.start (F:=[]) h1).list;have hR:St.pq4 S= !(S.list.any fun s=>St.dy1 s&&!St.isNone S s):=rfl;generalize St.pq4 S=R at *;have a8:=wk1 h.wf;have U:=pk1 h.wf;have Z:=H_ J;have HR:=H_ hR;have HV:=H_ Q;have H1:=H_ h1;have HP:=H_ hp;clear J hR h h1 Q;generalize hq:(S.list.any fun s=>St.dy1 s&&!St.isNone S s)=q at *;have HQ:=H_ hq;clear hq;go_enter func45,ntmps45;go_wp2_with fail;rw[<-HV.out];refine Z.out.mono ?_;rintro e w1 ⟨A,c,rfl,ho,E⟩;have H:=sj3 108 (fun _ _=>rfl) #[.pointer (some ⟨w.heap.size,0,none⟩)] (fun s=>St.dy1 s&&!St.isNone S s) A S.list.length c S.list w1 o_ (Row.own ho) (fun x w2 hx C=>dj5 X S x (by have:=vk1 (U x hx);omega) w.heap.size w2 (H1.out.below (az E C)) (((az E C).cell (p:=⟨w.heap.size,0,none⟩) I).trans HP.out));rw[HQ.out]at H;have a0:=H_ H;clear H ho;go_wp2_with fail;refine a0.out.mono ?_;rintro e w2 ⟨rfl,C⟩;have a1:=az O (az E C);clear E C;go_wp2;go_ret;exact⟨by rw[HR.out];rfl,a1⟩
end Go.Proofs.YtkdbagdiplpcfaaGreatDoor
