/- Texts IConcat, ChunkA, ChunkB, PlainRest in one. No conditions. -/
import Derived.Test.YthjdpplgfdihoaaGreatDoorBunAL
import Derived.RangeFuncNested
import Derived.Maps.OwnIn
import Derived.Test.YthjdpplgfdihoaaGreatDoorBunAN

set_option linter.unusedSimpArgs false
set_option linter.unusedVariables false
set_option maxRecDepth 100000
set_option maxHeartbeats 16000000
namespace Go.Proofs.YthjdpplgfdihoaaGreatDoor
end Go.Proofs.YthjdpplgfdihoaaGreatDoor
namespace Go.Proofs.YthjdpplgfdihoaaGreatDoor
open Go Go.RowKit Go.Shelf
end Go.Proofs.YthjdpplgfdihoaaGreatDoor
namespace Go.Proofs
open Go Go.RowKit Go.Shelf
def Tryz.growItem_ren:Go.Shelf.Ren:=⟨fun|4=>176|n=>n,fun|22=>31|25=>36|3=>3|4=>4|9=>9|20=>20|0=>0|n=>n,fun|n=>n⟩
theorem Tryz.growItem:Go.Proofs.Lays8.n4 Tryz.prog Tryz.growItem_ren:={
 mixed:=by kernel_rfl
 f4:=⟨Tryz.f176.name,by decide,Tryz.func176.trans (congrArg some (by kernel_rfl))⟩
 t0:=Tryz.underlying0
 a0:=Tryz.isAgg0
 z0:=Tryz.sizeOf0
 v0:=Tryz.zeroValue0
 t3:=Tryz.underlying3
 a3:=Tryz.isAgg3
 z3:=Tryz.sizeOf3
 v3:=Tryz.zeroValue3
 t4:=Tryz.underlying4
 a4:=Tryz.isAgg4
 z4:=Tryz.sizeOf4
 v4:=Tryz.zeroValue4
 t9:=Tryz.underlying9
 a9:=Tryz.isAgg9
 z9:=Tryz.sizeOf9
 v9:=Tryz.zeroValue9
 t20:=Tryz.underlying20
 a20:=Tryz.isAgg20
 z20:=Tryz.sizeOf20
 v20:=Tryz.zeroValue20
 t22:=Tryz.underlying31
 a22:=Tryz.isAgg31
 z22:=Tryz.sizeOf31
 v22:=Tryz.zeroValue31 }
end Go.Proofs
namespace Go.Proofs.YthjdpplgfdihoaaGreatDoor
open Go Go.RowKit Go.Shelf
def jv1 (B:Nat) (w:World) (P:Option Addr) (n:Nat) (ls:List (List It)):Prop:=
 ∃vs,Row B w P n 1 vs∧ls.length=n∧∀i (h:i < ls.length),∃A k c,vs[i]?=some (.slice A k c)∧k≤c∧c≤maxLen∧Row B w A k 5 (itc ls[i])
theorem jv1.at_ {B:Nat} {w:World} {P:Option Addr} {n:Nat} {ls:List (List It)} (h:jv1 B w P n ls) {i:Nat} (hi:i < n):
  ∃a A k c,∃hl:i < ls.length,P=some a∧a.block < B∧w.cell? (a.add i)=some (.slice A k c)∧k≤c∧c≤maxLen∧Row B w A k 5 (itc ls[i]):=by
 obtain⟨vs,hr,hl,hf⟩:=h;obtain⟨a,v,e,b,hv,hc⟩:=hr.at1 hi;obtain⟨A,k,c,h1,h2,h3,h4⟩:=hf i (by omega);rw[h1]at hv;injection hv with hv;exact⟨a,A,k,c,by omega,e,b,by rw[hc,←hv],h2,h3,h4⟩
theorem jv1.below {B:Nat} {w w':World} {P:Option Addr} {n:Nat} {ls:List (List It)} (h:jv1 B w P n ls) (hb:Below B w w'):jv1 B w' P n ls:=by
 obtain⟨vs,hr,hl,hf⟩:=h;exact⟨vs,hr.below hb,hl,fun i hi=>let ⟨A,k,c,h1,h2,h3,h4⟩:=hf i hi;⟨A,k,c,h1,h2,h3,h4.below hb⟩⟩
theorem jv1.up {B B':Nat} {w:World} {P:Option Addr} {n:Nat} {ls:List (List It)} (h:jv1 B w P n ls) (hb:B≤B'):jv1 B' w P n ls:=by
 obtain⟨vs,hr,hl,hf⟩:=h;exact⟨vs,hr.up hb,hl,fun i hi=>let ⟨A,k,c,h1,h2,h3,h4⟩:=hf i hi;⟨A,k,c,h1,h2,h3,h4.up hb⟩⟩
theorem jv1.len {B:Nat} {w:World} {P:Option Addr} {n:Nat} {ls:List (List It)} (h:jv1 B w P n ls):ls.length=n:=by
 obtain⟨_,_,hl,_⟩:=h;exact hl
theorem ez2 {ls:List (List It)} {k:Nat} (hl:k < ls.length):(ls.take (k+1)).flatten=(ls.take k).flatten++ls[k]:=by
 have h:=(aC_ hl).symm;rw[h,be_];simp
theorem iq3 {ls:List (List It)} (k:Nat):(ls.take k).flatten.length≤ls.flatten.length:=by
 conv=>rhs;rw[←aa_ k ls,be_,e_]
 omega
theorem wk3 (n:Nat) (hn:n≤1000000) (w:World):
  Calls Tryz.prog 176 #[.slice none 0 0,.int .i64 (n:Int)] w fun e w'=>∃A c,e=.returned (.slice A 0 c)∧w'.ownsRow w.heap.size 36 5 (.slice A 0 c) 0 []∧Below w.heap.size w w':=by
 obtain⟨i0,hi0,hz0,hz1,hz2⟩:=info_parts rq
 rcases ad_ n with h0|h0
 ·subst h0
  have h:=Any8.slices_Grow_room Tryz.growItem none 0 0 0 w l_ (by omega) (by omega) (by omega);refine Calls.mono h ?_;rintro e w' ⟨rfl,rfl⟩;exact⟨none,0,rfl,E_ _ _ _ _,Below.refl _ _⟩
 ·have h:=Any8.slices_Grow_grow Tryz.growItem i0 (.agg #[.int .i64 0,.int .i64 0,.int .u64 0,.int .u64 0,.int .i64 0]) hi0 hz0 (by omega) none 0 0 n [] w l_ (by omega) (by rw[hz2];omega) (by omega) (by simp) (fun _=>rfl) (fun a h=>by cases h)
  refine Calls.mono h ?_;rintro e w' ⟨rfl,rfl⟩;have hg:=grownCap_ge w (0+n) 0 36;have hg2:=grownCap_le_maxLen w (0+n) 0 36 (by unfold maxLen;omega);refine⟨_,_,rfl,⟨by simp,.inr ⟨w.heap.size,_,_,rfl,x_ _,heap_alloc_new w.drew _,t_ _,hg2,?_,by simp⟩⟩,((Below.refl w.heap.size w).drew).alloc l_ _⟩;change _=grownCap w (0+n) 0 36 *5;have hc:(Value.agg #[.int .i64 0,.int .i64 0,.int .u64 0,.int .u64 0,.int .i64 0]).cells.size=5:=rfl;simp only[bO_,Builtin.zeroCells,Array.size_map,Array.size_range,hc];change 0+(0+n - 0)*5+(grownCap w (0+n) 0 36 - (0+n))*5=_;omega
theorem aw2 (P:Option Addr) (n c:Nat) (ls:List (List It)) (w:World) (hn:n≤1000000) (hbig:ls.flatten.length≤1000000) (hr:jv1 w.heap.size w P n ls):
  Calls Tryz.prog 91 #[.slice P n c] w fun e w'=>∃A' c',e=.returned (.slice A' ls.flatten.length c')∧
   w'.ownsRow w.heap.size 36 5 (.slice A' ls.flatten.length c') ls.flatten.length (itc ls.flatten)∧ls.flatten.length≤c'∧c'≤maxLen∧Below w.heap.size w w':=by
 obtain⟨i0,hi0,hz0,hz1,hz2⟩:=info_parts rq;have hlen:ls.length=n:=by obtain⟨_,_,h,_⟩:=hr;exact h
 obtain⟨F,hF⟩:=n_ ls.flatten.length;have HF:=H_ hF;have HB:=H_ hbig;rw[←hF]at hbig ⊢;clear hF;go_enter Tryz.func91,Tryz.ntmps91;go_wp2
 go_loop [3,11] (fun x i=>∃k:Nat,k≤n∧i=.int .i64 (k:Int)∧x=.int .i64 (((ls.take k).flatten.length:Nat):Int)) (fun _ i=>n - (intOf i).toNat)
 case atStart=>exact⟨0,t_ _,rfl,rfl⟩
 case round=>
  obtain⟨k,hk,rfl,rfl⟩:=hrel
  by_cases hlt:k < n
  ·obtain⟨a,A,k',c',hl,rfl,_,hc,hkc,hcm,hr2⟩:=hr.at_ hlt
   have ht:=ez2 hl;have hb1:=iq3 (ls:=ls) (k+1);have e1:(ls.take (k+1)).flatten.length=(ls.take k).flatten.length+k':=by rw[ht,e_,hr2.uz]
   have hb2:(ls.take k).flatten.length+k'≤1000000:=by
    have h:ls.flatten.length≤1000000:=HB;omega
   have E1:=H_ e1;clear ht hb1 e1;generalize (ls.take k).flatten.length=L at *;have hge:((L:Int)+(k':Int) < 0)=False:=by simp;omega
   go_wp2
   go_round
   case rel=>exact⟨k+1,by omega,by go_num,by have e1:(ls.take (k+1)).flatten.length=L+k':=E1;rw[e1];go_num⟩
   case measure=>simp[intOf];omega
  ·obtain rfl:k=n:=by omega
   have e1:(ls.take k).flatten.length=F:=by
    have h:F=ls.flatten.length:=HF;rw[i_ (by omega),h]
   rw[e1];clear e1;go_wp2_with fail;refine(wk3 F hbig w).mono ?_;rintro e w1 ⟨A1,c1,rfl,ho1,hb1⟩;go_wp2
   go_loopw [6,27] (fun o i wr=>∃(j:Nat) (A':Option Addr) (M c':Nat),j≤k∧o=.slice A' M c'∧i=.int .i64 (j:Int)∧wr.ownsRow w.heap.size 36 5 (.slice A' M c') M (itc (ls.take j).flatten)∧Below w.heap.size w wr) (fun _ i _=>k - (intOf i).toNat)
   case atStart=>exact⟨0,A1,0,c1,t_ _,rfl,rfl,by simpa [itc] using ho1,hb1⟩
   case round=>
    obtain⟨j,A',M,c',hj,rfl,rfl,hown,hb⟩:=hrel;have hML:M=(ls.take j).flatten.length:=by
     have h1:=hown.1;rw[iw]at h1;omega
    by_cases hjk:j < k
    ·obtain⟨a,A,k',c2,hl,rfl,hab,hc,hkc,hcm,hr2⟩:=(hr.below hb).at_ hjk
     have ht:=ez2 hl;have hb1:=iq3 (ls:=ls) (j+1);have hb2:M+k'≤1000000:=by
      have h:ls.flatten.length≤1000000:=HB;have e1:(ls.take (j+1)).flatten.length=(ls.take j).flatten.length+k':=by rw[ht,e_,hr2.uz]
      omega
     have hnew:itc (ls.take j).flatten++itc ls[j]=itc (ls.take (j+1)).flatten:=by rw[ht,qw]
     have h1c:=xq ls[j];generalize itc ls[j]=X at *;generalize hY:itc (ls.take (j+1)).flatten=Y at *;generalize itc (ls.take j).flatten=Z at *;have HN:=H_ hnew;have HY:=H_ hY;clear hY hML ht hb1 hnew;go_wp2_with (at_builtin;refine iy ?_);refine gz (jq rfl (.tmp 31) (.tmp 32) _ rfl w.heap.size 36 i0 _ 5 40 Tryz.underlying31 hi0 hz0 hz1 hz2 rfl (by omega) w hb hb.size _ M Z rfl hown w.heap.size A k' c2 X rfl hr2 h1c (M+k') Y rfl HN (by unfold maxLen;omega) (by omega) ?_);intro A3 c3 w3 hown3 hb3 _ hc3 hm3;go_wp2;go_roundw
     case rel=>exact⟨j+1,A3,M+k',c3,by omega,rfl,by go_num,by have hY:itc (ls.take (j+1)).flatten=Y:=HY;rw[hY];exact hown3,hb3⟩
     case measure=>simp[intOf];omega
    ·obtain rfl:j=k:=by omega
     have e1:ls.take j=ls:=i_ (by omega);rw[e1]at hown hML;have h:F=ls.flatten.length:=HF;have hMF:M=F:=by omega
     subst hMF;obtain⟨A4,c4,e4,h5,h6,_⟩:=dw hown;injection e4 with e5 e6 e7;subst e5;subst e7;clear hML h e1;go_wp2;go_ret;exact⟨A',c',rfl,hown,h5,h6,hb⟩
end Go.Proofs.YthjdpplgfdihoaaGreatDoor
namespace Go.Proofs.YthjdpplgfdihoaaGreatDoor
section
open Go Go.RowKit Go.Lib Go.Shelf
attribute [local go_sem] Oper.semAt_some
abbrev Ck (m len:Nat):Type:={ x:Nat // x *m < len }
def Ck.len {m len:Nat} (x:Ck m len):Nat:=min m (len - x.1 *m)
def Ck.val (p:Addr) {m len:Nat} (x:Ck m len):Value:=.slice (some (p.add (x.1 *m *5))) x.len x.len
def Ck.of (l:List It) {m len:Nat} (x:Ck m len):List It:=(l.drop (x.1 *m)).take m
theorem nq4 {m len k f:Nat} {L:List It} {pre:List (Ck m len)} (hm:1≤m) (hL:L.length=len) (hk:k *m < len) (h1:(L.drop (k *m)).length≤f) (h2:pre.map (Ck.of L)++Tb.cut m f (L.drop (k *m))=Tb.cut m len L):
  ∃f',(L.drop ((k+1)*m)).length≤f'∧(pre++[(⟨k,hk⟩:Ck m len)]).map (Ck.of L)++Tb.cut m f' (L.drop ((k+1)*m))=Tb.cut m len L:=by
 have hkm:(k+1)*m=k *m+m:=cb_ k m;rw[B_]at h1;obtain⟨f',rfl⟩:∃f',f=f'+1:=⟨f - 1,by omega⟩;refine⟨f',by rw[B_,hkm];omega,?_⟩;have hne:L.drop (k *m)≠[]:=fun e=>by
  have:=congrArg List.length e;rw[B_]at this;simp at this;omega
 rw[←h2,Tb.cut,if_neg hne,aG_,hkm,aD_,D_];rfl
theorem rw2 (F:Fence) (n:Nat) (h7:F.fn 205) (hro:F.round=none) (hn:1≤n) (l Bs Bn:Nat) (Kp:World→World→Prop) (hKc:∀W W',Kp W W'→W'.cell? ⟨Bs,0,none⟩=W.cell? ⟨Bs,0,none⟩∧W'.cell? ⟨Bn,0,none⟩=W.cell? ⟨Bn,0,none⟩) (p:Addr) (len cap m:Nat) (L:List It) (hL:L.length=len) (hm:1≤m) (hm2:m≤1000) (hlen:len≤100000) (hcap:len≤cap) (J Jx:List (Ck m len)→World→Prop)
  (hJd:∀pre W,J pre W→J pre W.drew) (hY:∀pre x W,J pre W→pre.length *m < len→x.1=pre.length→YieldAt F (n - 1) Tryz.prog l #[Ck.val p x] W fun e W'=>
   (e=.returned (.bool true)∧J (pre++[x]) W'∧Kp W W')∨(e=.returned (.bool false)∧Jx (pre++[x]) W'))
  (W:World) (hBs:W.cell? ⟨Bs,0,none⟩=some (.slice (some p) len cap)) (hBn:W.cell? ⟨Bn,0,none⟩=some (.int .i64 (m:Int))) (h0:J [] W):
  CallsIn F n Tryz.prog 205 #[.func (.yield l) #[] #[],.pointer (some ⟨Bs,0,none⟩),.pointer (some ⟨Bn,0,none⟩)] W fun e W'=>(∃v,e=.returned v)∧
   ((∃ys,ys.map (Ck.of L)=Tb.cut m len L∧J ys W')∨(∃pre,Jx pre W')):=by
 refine callsIn_of_wp Tryz.func205 rfl h7 ?_ hro;simp only[Tryz.ntmps205,aj_,r_,R_,Nat.reduceAdd,Nat.reduceSub,aL_,aM_,aZ_,aQ_,y_,N_]
 gi_wp2
 gi_loopw [4] (fun i wr=>∃(k f:Nat) (pre:List (Ck m len)),i=.int .i64 ((k *m:Nat):Int)∧k *m≤len+m∧Hid (pre.length=k∧(L.drop (k *m)).length≤f∧pre.map (Ck.of L)++Tb.cut m f (L.drop (k *m))=Tb.cut m len L)∧J pre wr∧wr.cell? ⟨Bs,0,none⟩=some (.slice (some p) len cap)∧wr.cell? ⟨Bn,0,none⟩=some (.int .i64 (m:Int)))
  (fun i _=>len - (intOf i).toNat)
 case atStart=>exact⟨0,len,[],by simp,by simp,H_ ⟨rfl,by simp[hL],by simp⟩,h0,hBs,hBn⟩
 case round=>
  obtain⟨k,f,pre,rfl,hkb,HK,hJs,hs1,hs2⟩:=hrel;obtain⟨q,hq⟩:=n_ (k *m);rw[←hq]at HK hkb ⊢
  by_cases hlt:q < len
  ·have hlti:(q:Int) < (len:Int):=by omega
   have hkl:k *m < len:=by rw[←hq];exact hlt
   obtain⟨e,he⟩:=n_ (min m (len - q));have he0:0 < e:=by omega
   have he0i:(0:Int) < (e:Int):=by omega
   have hel:q+e≤len:=by omega
   have heli:(q:Int)+(e:Int)≤(len:Int):=by omega
   have hqe:(q:Int)≤(q:Int)+(e:Int):=by omega
   have hle:(q:Int)+(e:Int)≤(cap:Int):=by omega
   have hwe:IntKind.i64.wrap ((q:Int)+(e:Int))=((q+e:Nat):Int):=by rw[F_ _ (by omega)];omega
   have hmin:min (m:Int) ((len - q:Nat):Int)=(e:Int):=by omega
   obtain⟨fn,tmps,assign,body,hy,hR⟩:=hY pre ⟨k,hkl⟩ wr.drew (hJd _ _ hJs) (by rw[HK.out.1];exact hkl) HK.out.1.symm;have hv:Ck.val p (⟨k,hkl⟩:Ck m len)=.slice (some (p.add (q *5))) e e:=by
    unfold Ck.val Ck.len;simp only;rw[←hq,←he]
   rw[hv]at hy;have hcne:(cap=q)=False:=eq_false (by omega);have hcne2:(e=0)=False:=eq_false (by omega);have HST:=H_ (show ∃f',(L.drop ((k+1)*m)).length≤f'∧(pre++[(⟨k,hkl⟩:Ck m len)]).map (Ck.of L)++Tb.cut m f' (L.drop ((k+1)*m))=Tb.cut m len L from nq4 hm hL hkl (by rw[←hq];exact HK.out.2.1) (by rw[←hq];exact HK.out.2.2));have HPL:=H_ HK.out.1;have hkm:(k+1)*m=q+m:=by rw[hq];exact cb_ k m
   have hwqm:IntKind.i64.wrap ((q:Int)+(m:Int))=((q+m:Nat):Int):=by rw[F_ _ (by omega)];omega
   have HKM:=H_ hkm;have HR:=H_ hR;have HE:=H_ (d_ he hq);clear hR hv he hq hY hkm HK
   gi_wp2
   gi_region
   all_goals gi_wp2
   all_goals
    refine HR.out.mono ?_;rintro e' W3 (⟨rfl,hJ3,hk3⟩|⟨rfl,hJx3⟩)
    ·have hs4:W3.cell? ⟨Bs,0,none⟩=some (.slice (some p) len cap):=(hKc _ _ hk3).1.trans hs1
     have hs3:W3.cell? ⟨Bn,0,none⟩=some (.int .i64 (m:Int)):=(hKc _ _ hk3).2.trans hs2;clear hk3
     gi_wp2
     go_roundw
     case rel=>
      obtain⟨f',z1,z2⟩:=HST.out;exact⟨k+1,f',pre++[⟨k,hkl⟩],by rw[HKM.out];go_num,by rw[HKM.out];omega,H_ ⟨by rw[e_,HPL.out];rfl,z1,z2⟩,hJ3,hs4,hs3⟩
     case measure=>simp[intOf];omega
    ·gi_wp2
     refine bodyPost_ret (results_none rfl _ _ _) rfl ?_;exact⟨⟨_,rfl⟩,.inr ⟨_,hJx3⟩⟩
  ·have hlti:((q:Int) < (len:Int))=False:=eq_false (by omega)
   have hfin:pre.map (Ck.of L)=Tb.cut m len L:=by
    have h1:=HK.out.2.2;rw[aq_ (by omega)]at h1;rw[←h1]
    cases f<;>simp[Tb.cut]
   have HFIN:=H_ hfin;clear hfin HK hq
   gi_wp2
   go_end0
   exact⟨⟨_,rfl⟩,.inl ⟨_,HFIN.out,hJs⟩⟩
theorem qk1 (F:Fence) (n:Nat) (h7:F.fn 205) (hro:F.round=none) (l Bs Bn cap:Nat) (A:Option Addr) (J:World→Prop) (W:World) (hBs:W.cell? ⟨Bs,0,none⟩=some (.slice A 0 cap)) (h0:J W):
  CallsIn F n Tryz.prog 205 #[.func (.yield l) #[] #[],.pointer (some ⟨Bs,0,none⟩),.pointer (some ⟨Bn,0,none⟩)] W fun e W'=>(∃v,e=.returned v)∧J W':=by
 refine callsIn_of_wp Tryz.func205 rfl h7 ?_ hro;simp only[Tryz.ntmps205,aj_,r_,R_,Nat.reduceAdd,Nat.reduceSub,aL_,aM_,aZ_,aQ_,y_,N_]
 gi_wp2
 gi_loopw [4] (fun i wr=>i=.int .i64 0∧wr=W) (fun _ _=>0)
 case atStart=>exact⟨rfl,rfl⟩
 case round=>
  obtain⟨rfl,rfl⟩:=hrel
  gi_wp2
  go_end0
  exact⟨⟨_,rfl⟩,h0⟩
theorem cq3 (F:Fence) (n:Nat) (h7:F.fn 205) (hro:F.round=none) (hn:1≤n) (Bs Bn:Nat) (Kp:World→World→Prop) (hKc:∀W W',Kp W W'→W'.cell? ⟨Bs,0,none⟩=W.cell? ⟨Bs,0,none⟩∧W'.cell? ⟨Bn,0,none⟩=W.cell? ⟨Bn,0,none⟩) (p:Addr) (A:Option Addr) (len cap m:Nat) (hA:0 < len→A=some p) (L:List It) (hL:L.length=len) (hm:1≤m) (hm2:m≤1000) (hlen:len≤100000) (hcap:len≤cap) (w:World) (hb1:Bs < w.heap.size) (hb2:Bn < w.heap.size)
  (hBs:w.cell? ⟨Bs,0,none⟩=some (.slice A len cap)) (hBn:w.cell? ⟨Bn,0,none⟩=some (.int .i64 (m:Int))):
  SeqStopsK F n Tryz.prog 205 #[.pointer (some ⟨Bs,0,none⟩),.pointer (some ⟨Bn,0,none⟩)] (fun x:Ck m len=>#[Ck.val p x]) Kp (fun ys=>ys.map (Ck.of L)=Tb.cut m len L) (fun _=>True) len w:=fun l J Jx W hW hJ _ hY h0=>by
 have c1:=(hW.cell (p:=⟨Bs,0,none⟩) hb1).trans hBs;have c2:=(hW.cell (p:=⟨Bn,0,none⟩) hb2).trans hBn;have hJd:∀pre W,J pre W→J pre W.drew:=fun pre W h=>hJ pre W _ none h ⟨rfl,rfl,rfl,x_ _,fun _ _ _=>rfl⟩ (fun r e=>by cases e)
 rcases ad_ len with h|h
 ·subst h
  refine(qk1 F n h7 hro l Bs Bn cap A (fun W=>J [] W) W c1 h0).mono ?_;rintro e W' ⟨he,hj⟩;exact⟨he,.inl ⟨[],by simp[Tb.cut],hj⟩⟩
 ·rw[hA h]at c1
  refine(rw2 F n h7 hro hn l Bs Bn Kp hKc p len cap m L hL hm hm2 hlen hcap J Jx hJd (fun pre x W hj hl _=>hY pre x W hj (by have:=Nat.le_mul_of_pos_right pre.length hm;omega)) W c1 c2 h0).mono ?_;rintro e W' ⟨he,⟨ys,h1,h2⟩|⟨pre,h1⟩⟩
  ·exact⟨he,.inl ⟨ys,h1,h2⟩⟩
  ·exact⟨he,.inr ⟨pre,trivial,h1⟩⟩
theorem oq2 (F:Fence) (n:Nat) (h5:F.fn 121) (hro:F.round=none) (a:Option Addr) (len cap m:Nat) (hm:1≤m) (w:World):
  CallsIn F n Tryz.prog 121 #[.slice a len cap,.int .i64 (m:Int)] w fun e w'=>e=.returned (.func (.func 205) #[] #[.pointer (some ⟨w.heap.size,0,none⟩),.pointer (some ⟨w.heap.size+1,0,none⟩)])∧w'=(w.alloc (.cells #[.slice a len cap] 31)).alloc (.cells #[.int .i64 (m:Int)] 3):=by
 have h1:((m:Int) < 1)=False:=eq_false (by omega);refine callsIn_of_wp Tryz.func121 rfl h5 ?_ hro;simp only[Tryz.ntmps121,aj_,r_,R_,Nat.reduceAdd,Nat.reduceSub,aL_,aM_,aZ_,aQ_,y_,N_]
 gi_wp2
 go_ret;exact⟨rfl,rfl⟩
end
section
open Go Go.RowKit Go.Lib Go.Shelf
attribute [local go_sem] Oper.semAt_some
theorem qx4:(Tryz.prog.info? 31).map (fun i=>(i.zero,i.size,i.bytes))=some (some (.slice none 0 0),1,24):=by kernel_rfl
theorem tj1 (p:Addr) (n c:Nat) (l:List It) (w:World) (h0:0 < n) (hn:n≤1000000) (hr:Row w.heap.size w (some p) n 5 (itc l)):
  Calls Tryz.prog 312 #[.slice (some p) n c] w fun e w'=>∃A' c',e=.returned (.slice A' n c')∧w'.ownsRow w.heap.size 36 5 (.slice A' n c') n (itc l)∧n≤c'∧c'≤maxLen∧Below w.heap.size w w':=by
 obtain⟨i0,hi0,hz0,hz1,hz2⟩:=info_parts rq;have HR:=H_ hr;clear hr;go_enter Tryz.func312,Tryz.ntmps312;have ho0:(w.alloc (.cells #[] 36)).ownsRow w.heap.size 36 5 (.slice (some ⟨w.heap.size,0,none⟩) 0 0) 0 []:=⟨rfl,.inr ⟨w.heap.size,0,#[],rfl,x_ _,heap_alloc_new w _,x_ _,by decide,rfl,rfl⟩⟩;have hb0:=b_ w (.cells #[] 36);have HO:=H_ ho0;have HB:=H_ hb0;have HR2:=H_ (HR.out.below hb0);clear ho0 hb0;have hnil:∀W,(binOp .eql 31 (.slice (some p) n c) (.slice none 0 0)).run Tryz.prog W=.ok (.bool false) W:=fun W=>Lib.run_eql_slice_some_nil (e:=36) W _ _ _ (by kernel_rfl);go_wp2_with (at_builtin;refine iy ?_);refine gz (jq rfl (.tmp 5) (.tmp 6) _ rfl w.heap.size 36 i0 _ 5 40 Tryz.underlying31 hi0 hz0 hz1 hz2 rfl (by omega) w HB.out HB.out.size _ 0 [] rfl HO.out w.heap.size _ n c (itc l) rfl HR2.out (xq l) n _ (ag_ n) (y_ _) (by unfold maxLen;omega) (by omega) ?_);intro A3 c3 w3 z1 z2 z3 z4 z5;have HF:=H_ z1;clear z1 z3 HO HB HR2;go_wp2;go_ret;exact⟨A3,c3,rfl,HF.out,z4,z5,z2⟩
def Kp3 (n₀ a b:Nat) (W W':World):Prop:=Below n₀ W W'∧W'.heap[a]?=W.heap[a]?∧W'.heap[b]?=W.heap[b]?
theorem Kp3.trans {n₀ a b:Nat} {A B C:World} (h:Kp3 n₀ a b A B) (k:Kp3 n₀ a b B C):Kp3 n₀ a b A C:=⟨h.1.trans k.1,k.2.1.trans h.2.1,k.2.2.trans h.2.2⟩
theorem Kp3.cell {n₀ a b:Nat} (W W':World) (h:Kp3 n₀ a b W W'):W'.cell? ⟨a,0,none⟩=W.cell? ⟨a,0,none⟩∧W'.cell? ⟨b,0,none⟩=W.cell? ⟨b,0,none⟩:=⟨W_ h.2.1,W_ h.2.2⟩
theorem own_ne {W:World} {base:Nat} {e:TypeId} {size n:Nat} {v:Value} {xs:List Value} (h:W.ownsRow base e size v n xs) {row:Option Nat} (hr:∀r,row=some r→∀cs fr,W.heap[r]?≠some (.cells cs e fr)):v.ownBlock=none∨v.ownBlock≠row:=by
 rcases h.2 with ⟨rfl,_⟩|⟨g,cap,cur,rfl,hb,hgb,_⟩
 ·exact .inl rfl
 ·exact .inr fun e'=>hr g (by simpa [Value.ownBlock] using e'.symm) _ _ hgb
def Cuts {m len:Nat} (n₀:Nat) (W:World) (L:List It) (v:Value) (pre:List (Ck m len)):Prop:=∃vs,W.ownsRow n₀ 31 1 v pre.length vs∧∀i (h:i < pre.length),∃A k c,vs[i]?=some (.slice A k c)∧k≤c∧c≤maxLen∧W.ownsRow n₀ 36 5 (.slice A k c) k (itc (Ck.of L pre[i]))
theorem Cuts.kept {m len n₀:Nat} {W W':World} {L:List It} {v:Value} {pre:List (Ck m len)} (h:Cuts n₀ W L v pre) {row:Option Nat} (hg:W.grownBy W' row) (hr:∀r,row=some r→∀cs fr,W.heap[r]?≠some (.cells cs 31 fr)∧W.heap[r]?≠some (.cells cs 36 fr)):Cuts n₀ W' L v pre:=by
 obtain⟨vs,h1,h2⟩:=h;refine⟨vs,h1.kept hg (own_ne h1 fun r e cs fr=>(hr r e cs fr).1),fun i hi=>?_⟩;obtain⟨A,k,c,z1,z2,z3,z4⟩:=h2 i hi;exact⟨A,k,c,z1,z2,z3,z4.kept hg (own_ne z4 fun r e cs fr=>(hr r e cs fr).2)⟩
theorem Cuts.more {m len n₀:Nat} {W W':World} {L:List It} {v v':Value} {vs:List Value} {pre:List (Ck m len)} {x:Ck m len} {A:Option Addr} {k c:Nat} (h:∀i (h:i < pre.length),∃A k c,vs[i]?=some (.slice A k c)∧k≤c∧c≤maxLen∧W.ownsRow n₀ 36 5 (.slice A k c) k (itc (Ck.of L pre[i]))) (hl:vs.length=pre.length) (hg:W.grownBy W' v.ownBlock) (hv:W.ownsRow n₀ 31 1 v pre.length vs)
  (hk:k≤c) (hc:c≤maxLen) (ho:W.ownsRow n₀ 36 5 (.slice A k c) k (itc (Ck.of L x))) (hv':W'.ownsRow n₀ 31 1 v' (pre.length+1) (vs++[.slice A k c])):Cuts n₀ W' L v' (pre++[x]):=by
 have hne:∀r,v.ownBlock=some r→∀cs fr,W.heap[r]?≠some (.cells cs 36 fr):=by
  intro r hr cs fr e
  rcases hv.2 with ⟨rfl,_⟩|⟨g,cap,cur,rfl,hb,hgb,_⟩
  ·simp[Value.ownBlock]at hr
  ·obtain rfl:g=r:=by simpa [Value.ownBlock] using hr
   rw[hgb]at e;injection e with e;injection e with _ e;exact absurd e (by decide)
 refine⟨vs++[.slice A k c],by rw[e_];exact hv',fun i hi=>?_⟩;rw[e_]at hi
 rcases T_ i pre.length with h1|h1
 ·obtain⟨A,k,c,z1,z2,z3,z4⟩:=h i h1
  refine⟨A,k,c,by rw[J_ (by omega)];exact z1,z2,z3,?_⟩;rw[aB_ h1];exact z4.kept hg (own_ne z4 hne)
 ·have h2:i=pre.length:=by simp at hi;omega
  subst h2;refine⟨A,k,c,by rw[←hl];simp,hk,hc,?_⟩;rw[bw_ l_];simp only[bF_,aP_];exact ho.kept hg (own_ne ho hne)
theorem Cuts.rows {m len n₀:Nat} {W:World} {L:List It} {A:Option Addr} {n c:Nat} {pre:List (Ck m len)} (h:Cuts n₀ W L (.slice A n c) pre):n=pre.length∧jv1 W.heap.size W A n (pre.map (Ck.of L)):=by
 obtain⟨vs,h1,h2⟩:=h;have hn:n=pre.length:=by
  rcases h1.2 with ⟨e,e2⟩|⟨g,cap,cur,e,_⟩
  ·injection e with _ e _
   omega
  ·injection e
 subst hn;refine⟨rfl,vs,Row.own h1,by simp,fun i hi=>?_⟩;rw[az_]at hi;obtain⟨A,k,c,z1,z2,z3,z4⟩:=h2 i hi;exact⟨A,k,c,z1,z2,z3,by rw[List.getElem_map];exact Row.own z4⟩
theorem jk1 {P:Program} {F:Fence} {nF:Nat} {ops:Array Oper} {o:Oper} {a:Act} {w:World} {K:Act→World→Prop} {Q:Exit→Act→World→Prop} {E:Prop} (hgd:o.guard=none) (s x:Operand) (t:TypeId)
  (ho:o.op=.call { callee:=.builtin .append,args:=#[s,x],argTypes:=#[t,t] })
  (base:Nat) (e:TypeId) (i:TypeInfo) (z:Value) (size bytes:Nat) (ht:P.underlying t=some (.slice e)) (hi:P.info? e=some i) (hz:i.zero=some z)
  (hsize:i.size=size) (hby:i.bytes=bytes) (hzs:z.cells.size=size) (hsz:0 < size) (hbase:base≤w.heap.size) (v:Value) (n:Nat) (xs:List Value) (hs:a.eval s=v) (hown:w.ownsRow base e size v n xs)
  (B:Nat) (A:Option Addr) (m c:Nat) (news:List Value) (hx:a.eval x=.slice A m c) (hr:Row B w A m size news) (h1:∀u∈news,u.oneCell'=true)
  (N:Nat) (X:List Value) (hN:n+m=N) (hX:xs++news=X) (h63:N≤maxLen) (hbytes:N *bytes≤140737488355328)
  (h:∀A' c' w',w'.ownsRow base e size (.slice A' N c') N X→w.grownBy w' v.ownBlock→N≤c'→c'≤maxLen→((Value.slice A' N c').ownBlock=v.ownBlock∨(Value.slice A' N c').ownBlock=some w.heap.size)→K (a.put o.dst (.slice A' N c')) w'):
  if Region.wanted o (yielded ops a.tmps)=true then Oper.wpIn F nF P o a w K Q else E:=by
 have hw:Region.wanted o (yielded ops a.tmps)=true:=by simp[Region.wanted,hgd]
 rw[if_pos hw];subst hN;subst hX;obtain⟨A',c',w',hrun,h3,h4,h5,h7,h6⟩:=kw2 (P:=P) w base t o.type e i z size bytes ht hi hz hsize hby hzs hsz v n xs hown B A m c news hr h1 h63 hbytes hbase;unfold Oper.wpIn;refine⟨by simp[Oper.about,ho,resolve,Target.leads,Sem.run_pure],?_⟩;rw[Oper.semAt_plain F _ _ (by rw[ho];intro c hc';cases hc')];simp[execOp,ho,resolve,invoke,builtin,hs,hx,hrun,Result.andThen];exact h _ _ _ h3 h4 h5 h7 h6
theorem av4 (L:List It) (k m:Nat) {len:Nat} (hL:L.length=len):((itc L).drop (k *5)).take (m *5)=((itc L).drop (k *5)).take (min m (len - k)*5):=by
 rcases Nat.le_total m (len - k) with h|h
 ·rw[aH_ h]
 ·rw[Nat.min_eq_right h,i_ (by rw[B_,iw];omega),i_ (by rw[B_,iw];omega)]
theorem mq1 {m len:Nat} {w W w1 w3:World} {L:List It} {v:Value} {A1 A3:Option Addr} {c1 c3:Nat} {vs:List Value} {pre:List (Ck m len)} {x:Ck m len} (o:Obj)
  (h1:w3.ownsRow (w.heap.size+3) 31 1 (.slice A3 (pre.length+1) c3) (pre.length+1) (vs++[.slice A1 x.len c1])) (hg:(w1.alloc o).grownBy w3 v.ownBlock) (hb:Below W.heap.size W w1)
  (ho:w1.ownsRow W.heap.size 36 5 (.slice A1 x.len c1) x.len (itc (Ck.of L x))) (hc:x.len≤c1∧c1≤maxLen)
  (hX:Boxed w3 w.heap.size 44 v∧Boxed (w3.setCell ⟨w.heap.size,0,none⟩ (.slice A3 (pre.length+1) c3)) w.heap.size 44 (.slice A3 (pre.length+1) c3)∧KeepsOthers w1 (w3.setCell ⟨w.heap.size,0,none⟩ (.slice A3 (pre.length+1) c3))∧Below w.heap.size w1 (w3.setCell ⟨w.heap.size,0,none⟩ (.slice A3 (pre.length+1) c3)))
  (hel:∀i (h:i < pre.length),∃A k c,vs[i]?=some (.slice A k c)∧k≤c∧c≤maxLen∧W.ownsRow (w.heap.size+3) 36 5 (.slice A k c) k (itc (Ck.of L pre[i]))) (hown:W.ownsRow (w.heap.size+3) 31 1 v pre.length vs) (hsz:w.heap.size+3≤W.heap.size) (hB:Below w.heap.size w W):
  KeepsOthers W (w3.setCell ⟨w.heap.size,0,none⟩ (.slice A3 (pre.length+1) c3))∧Kp3 w.heap.size (w.heap.size+1) (w.heap.size+1+1) W (w3.setCell ⟨w.heap.size,0,none⟩ (.slice A3 (pre.length+1) c3))∧
   ((w.heap.size+3≤(w3.setCell ⟨w.heap.size,0,none⟩ (.slice A3 (pre.length+1) c3)).heap.size∧∃v',Boxed (w3.setCell ⟨w.heap.size,0,none⟩ (.slice A3 (pre.length+1) c3)) w.heap.size 44 v'∧Cuts (w.heap.size+3) (w3.setCell ⟨w.heap.size,0,none⟩ (.slice A3 (pre.length+1) c3)) L v' (pre++[x]))∧Below w.heap.size w (w3.setCell ⟨w.heap.size,0,none⟩ (.slice A3 (pre.length+1) c3))):=by
 obtain⟨x1,x2,x3,x4⟩:=hX;have hbW:=hb.mono (show w.heap.size≤W.heap.size by omega);have hg1:W.grownBy w1 none:=⟨hb.os,hb.tape,hb.output,hb.size,fun k hk _=>hb.block k hk⟩;have hk1:KeepsOthers W w1:=KeepsOthers.of_grownBy hg1 (fun j o ej=>by cases ej);have hown1:=(own_below hown hb).alloc o;have hvb:∀k,v.ownBlock=some k→w.heap.size+3≤k:=by
  intro k hk
  rcases hown.2 with ⟨rfl,_⟩|⟨g,cap,cur,rfl,hb,hgb,_⟩
  ·simp[Value.ownBlock]at hk
  ·obtain rfl:g=k:=by simpa [Value.ownBlock] using hk
   exact hb
 have hsame:∀k,k < w.heap.size+3→k≠w.heap.size→(w3.setCell ⟨w.heap.size,0,none⟩ (.slice A3 (pre.length+1) c3)).heap[k]?=W.heap[k]?:=by
  intro k hk hk2;rw[Below.heap_setCell _ _ _ k (fun e=>hk2 e),hg.block k (by rw[A_];have:=hb.size;omega) (fun e=>by have:=hvb k e.symm;omega),Below.heap_alloc _ _ k (by have:=hb.size;omega),hb.block k (by omega)]
 refine⟨hk1.trans x3,⟨hbW.trans x4,hsame _ (by omega) (by omega),hsame _ (by omega) (by omega)⟩,⟨?_,_,x2,?_⟩,(hB.trans hbW).trans x4⟩
 ·have h2:=x4.size
  have:=hb.size;omega
 ·have hcm:Cuts (w.heap.size+3) w3 L (.slice A3 (pre.length+1) c3) (pre++[x]):=by
   refine Cuts.more (W:=w1.alloc o) (v:=v) (fun i hi=>?_) (by have:=hown.1;omega) hg hown1 hc.1 hc.2 (own_base (ho.alloc o) hsz) h1;obtain⟨A,k,c,z1,z2,z3,z4⟩:=hel i hi;exact⟨A,k,c,z1,z2,z3,(own_below z4 hb).alloc o⟩
  refine hcm.kept (grownBy_setCell' _ _ _) (fun r e cs fr=>?_)
  cases e
  constructor<;>(intro e2;rw[show w3.heap[w.heap.size]?=_ from x1]at e2;injection e2 with e2;injection e2 with _ e2;exact absurd e2 (by decide))
theorem kk4 (A:Option Addr) (len c:Nat) (L:List It) (w:World) (hlen:len≤2000) (hlc:len≤c) (hr:Row w.heap.size w A len 5 (itc L)):
  Calls Tryz.prog 262 #[.slice A len c,.int .i64 20] w fun e w'=>∃A' k c',e=.returned (.slice A' k c')∧k≤c'∧c'≤maxLen∧jv1 w'.heap.size w' A' k (Tb.cut 20 len L)∧Below w.heap.size w w':=by
 obtain⟨i0,hi0,hz0,hz1,hz2⟩:=info_parts qx4;have hLl:=hr.uz;have hm1:max (20:Int) 1=20:=by decide
 have hm2:min (20:Int) 100=20:=by decide
 obtain⟨p,hp⟩:∃p,0 < len→A=some p:=by
  cases A with
  |none=>
   refine⟨⟨0,0,none⟩,fun h=>?_⟩;obtain⟨a,_,e,_⟩:=hr.it h
   cases e
  |some p=>exact⟨p,fun _=>rfl⟩
 have HR:=H_ hr;have HP:=H_ hp;clear hr hp;refine(callsIn_wide (n:=6)).1 ?_;refine callsIn_of_wp_marks Tryz.func262 rfl trivial ?_ rfl;simp only[Tryz.ntmps262,aj_,r_,R_,Nat.reduceAdd,Nat.reduceSub,aL_,aM_,aZ_,aQ_,y_,N_]
 gi_wp2_with (refine⟨trivial,?_⟩;gi_at_call 121;refine(oq2 Fence.wide 5 trivial rfl A len c 20 (by omega) _).mono ?_;rintro e w' ⟨rfl,rfl⟩)
 have bO:=Boxed.new w 44 (.slice none 0 0);have bS:=Boxed.new (w.alloc (.cells #[.slice none 0 0] 44)) 31 (.slice A len c);have bM:=Boxed.new ((w.alloc (.cells #[.slice none 0 0] 44)).alloc (.cells #[.slice A len c] 31)) 3 (.int .i64 ((20:Nat):Int));rw[A_]at bS;rw[A_,A_]at bM;have hB0:Below w.heap.size w (((w.alloc (.cells #[.slice none 0 0] 44)).alloc (.cells #[.slice A len c] 31)).alloc (.cells #[.int .i64 ((20:Nat):Int)] 3)):=(((Below.refl _ w).alloc l_ _).alloc (by simp) _).alloc (by simp;omega) _;have hst:=cq3 Fence.wide 5 trivial rfl (by omega) (w.heap.size+1) (w.heap.size+1+1) (Kp3 w.heap.size (w.heap.size+1) (w.heap.size+1+1)) Kp3.cell p A len c 20 HP.out L hLl (by omega) (by omega) (by omega) hlc _ (by simp) (by simp) (bS.alloc _).cell bM.cell;refine wpIn_rangeFunc_ownF (α:=Ck 20 len) (n:=6) (encs:=fun x=>#[Ck.val p x]) rfl (by omega) (gf:=205) (lb:=#[.pointer (some ⟨w.heap.size+1,0,none⟩),.pointer (some ⟨w.heap.size+1+1,0,none⟩)]) rfl trivial (enters_of Tryz.func205 (by kernel_rfl) rfl) hst Kp3.trans ?hKb b0_ (fun _=>rfl)
  (fun pre W=>(w.heap.size+3≤W.heap.size∧∃v,Boxed W w.heap.size 44 v∧Cuts (w.heap.size+3) W L v pre)∧Below w.heap.size w W)
  (fun _ _ _=>False) ?hI (fun _ _ _ _ _ hs _ _=>hs) ⟨⟨by simp,_,(bO.alloc _).alloc _,[],E_ _ _ _ _,fun i hi=>absurd hi (by simp)⟩,hB0⟩
  (fun x=>{ tmps:=#[.slice A len c,.int .i64 20,undef,undef,.slice none 0 0,.pointer (some ⟨w.heap.size,0,none⟩),Ck.val p x,.slice A len c,.int .i64 20,.int .i64 20,.int .i64 20,.func (.func 205) #[] #[.pointer (some ⟨w.heap.size+1,0,none⟩),.pointer (some ⟨w.heap.size+1+1,0,none⟩)],Ck.val p x,undef,undef,undef,undef,undef,undef],defers:=[] }) ?assign ?body ?done ?stop
 case hKb=>
  intro W l o o' hl ho h1 h2;refine⟨belowK_b (by simp;omega) W l o o' hl ho h1 h2,I_ (fun e=>?_),I_ (fun e=>?_)⟩
  ·simp at hl;omega
  ·simp at hl;omega
 case hI=>
  refine OwnFrom.and (fun pre W W' row hs hg hr=>?_) (ownFrom_below l_ (by simp;omega));obtain⟨h0,v,h1,h2⟩:=hs;have hr':∀r,row=some r→∃o:Obj,W.heap[r]?=some o∧o.isCells=false:=fun r e=>(hr r e).2;refine⟨h_ h0 hg.size,v,h1.kept hg (fun e'=>?_),h2.kept hg fun r e cs fr=>?_⟩
  ·obtain⟨o,ho,hc⟩:=hr' _ e'.symm
   rw[show W.heap[w.heap.size]?=_ from h1]at ho
   cases ho
   cases hc
  ·obtain⟨o,ho,hc⟩:=hr' r e
   constructor<;>(intro e2;rw[ho]at e2;cases e2;cases hc)
 case assign=>
  intro l x W K hK
  gi_wp2
  exact hK
 case body=>
  rintro l pre x W ⟨⟨hsz,v,hv,vs,hown,hel⟩,hB⟩ hlt;have hc:=hv.cell;have hx:=x.2;have hx1:0 < x.len:=by unfold Ck.len;omega
  have hx2:x.len≤20:=by unfold Ck.len;omega
  have hx3:x.1 *20+x.len≤len:=by unfold Ck.len;omega
  have hA:A=some p:=HP.out (by omega);have hrow:Row W.heap.size W.drew (some (p.add (x.1 *20 *5))) x.len 5 (itc (Ck.of L x)):=by
   have h1:=((HR.out.below hB).up hB.size).drew;have h2:=h1.cut (k:=x.1 *20) (m:=x.1 *20+x.len) (A':=some (p.add (x.1 *20 *5))) (by omega) (by omega) (fun _=>by rw[hA];rfl);rw[show x.1 *20+x.len - x.1 *20=x.len from by omega]at h2;rw[show itc (Ck.of L x)=((itc L).drop (x.1 *20 *5)).take (x.len *5) from by unfold Ck.of;rw[bz1,kw1];exact av4 L (x.1 *20) 20 hLl];exact h2
  have HROW:=H_ hrow;have HEL:=H_ hel;have HOWN:=H_ hown;have HV:=H_ hv;have HBW:=H_ hB;clear hrow hel hown hv hA hx hx3 hst bO bS bM hB0
  gi_wp2
  refine wpIn_region_any (by kernel_rfl) ?_;change wpAnyIn _ _ _ _ _ _ _ _ _ (World.drew _);refine wpAnyIn_ready (rs:=[0,1]) (by kernel_rfl) (by simp) ?_;refine AllReadyIn.cons rfl (fun K hK=>?_) ?_
  ·go_simp
   refine hK _ _ ?_;clear hK K;refine wpAnyIn_ready (rs:=[1]) (by kernel_rfl) (by simp) ?_;refine AllReadyIn.cons rfl (fun K hK=>?_) ?_
   ·go_simp
    refine hK _ _ ?_;clear hK K;refine wpAnyIn_ready (rs:=[2]) (by kernel_rfl) (by simp) ?_;refine AllReadyIn.cons rfl (fun K hK=>?_) ?_
    ·go_simp
     gi_wp2_with (refine⟨trivial,?_⟩;gi_at_call 312;refine(CallsIn.inRound l (callsIn_wide.2 (tj1 _ x.len _ (Ck.of L x) _ (by omega) (by omega) HROW.out))).mono ?_;rintro e w1 ⟨A1,c1,rfl,ho1,hc1,hc2,hb1⟩)
     have HO1:=H_ (ho1:w1.ownsRow W.heap.size 36 5 (.slice A1 x.len c1) x.len (itc (Ck.of L x)));have HB1:=H_ (((Below.refl W.heap.size W).drew).trans hb1);have hcc:=(HB1.out.cell (p:=⟨w.heap.size,0,none⟩) HV.out.lt).trans hc;have hca:=(af_ w1 (.cells #[.slice A1 x.len c1] 31) ⟨w.heap.size,0,none⟩ (by have:=HB1.out.size;have:w1.drew.heap.size=w1.heap.size:=rfl;simp;omega)).trans hcc;have HC1:=H_ (d_ hc1 hc2);clear ho1 hb1 hc1 hc2;refine wpAnyIn_ready (rs:=[3]) (by kernel_rfl) (by simp) ?_;refine AllReadyIn.cons rfl (fun K hK=>?_) ?_
     ·go_simp
      refine hK _ _ ?_;clear hK K;refine wpAnyIn_ready (rs:=[4]) (by kernel_rfl) (by simp) ?_;refine AllReadyIn.cons rfl (fun K hK=>?_) ?_
      ·refine jk1 rfl (.tmp 13) (.tmp 16) _ rfl (w.heap.size+3) 31 i0 _ 1 24 Tryz.underlying44 hi0 hz0 hz1 hz2 rfl (by omega) (by have:=HB1.out.size;rw[A_];omega) v pre.length vs rfl ((own_below HOWN.out HB1.out).alloc _) _ (some ⟨w1.heap.size,0,none⟩) 1 1 [.slice A1 x.len c1] rfl (Row.new w1 #[.slice A1 x.len c1] 31 rfl) (by simp[Value.oneCell']) (pre.length+1) _ rfl rfl (by unfold maxLen;omega) (by omega) ?_
       intro A3 c3 w3 hown3 hg3 _ _ _;have HW:=H_ (d_ hown3 hg3);clear hown3 hg3;have hv1:Boxed w1 w.heap.size 44 v:=(HB1.out.block _ HV.out.lt).trans HV.out;obtain⟨hx1,hx2,hx3,hx4,hx5⟩:=hv1.appended (by decide) (own_base (own_below HOWN.out HB1.out) (am_ _ 3)) (by have:=HB1.out.size;omega) l_ (own_base HW.out.1 (am_ _ 3)) HW.out.2;have hcc3:=hx1.cell;have hcf3:=hx1.frozen;have HX:=H_ (d_ hx1 (d_ hx2 (d_ hx4 hx5)));clear hx1 hx2 hx3 hx4 hx5 hv1;refine hK _ _ ?_;clear hK K;refine wpAnyIn_ready (rs:=[5]) (by kernel_rfl) (by simp) ?_;refine AllReadyIn.cons rfl (fun K hK=>?_) ?_
       ·go_simp
        refine hK _ _ ?_;clear hK K;refine wpAnyIn_done (by kernel_rfl) ?_ _
        gi_wp2
        exact mq1 _ HW.out.1 HW.out.2 HB1.out HO1.out HC1.out HX.out HEL.out HOWN.out hsz HBW.out
       exact AllReadyIn.nil
      exact AllReadyIn.nil
     exact AllReadyIn.nil
    exact AllReadyIn.nil
   exact AllReadyIn.nil
  refine AllReadyIn.cons rfl (fun K hK=>?_) ?_
  ·go_simp
   refine hK _ _ ?_;clear hK K;refine wpAnyIn_ready (rs:=[0,2]) (by kernel_rfl) (by simp) ?_;refine AllReadyIn.cons rfl (fun K hK=>?_) ?_
   ·go_simp
    refine hK _ _ ?_;clear hK K;refine wpAnyIn_ready (rs:=[2]) (by kernel_rfl) (by simp) ?_;refine AllReadyIn.cons rfl (fun K hK=>?_) ?_
    ·go_simp
     gi_wp2_with (refine⟨trivial,?_⟩;gi_at_call 312;refine(CallsIn.inRound l (callsIn_wide.2 (tj1 _ x.len _ (Ck.of L x) _ (by omega) (by omega) HROW.out))).mono ?_;rintro e w1 ⟨A1,c1,rfl,ho1,hc1,hc2,hb1⟩)
     have HO1:=H_ (ho1:w1.ownsRow W.heap.size 36 5 (.slice A1 x.len c1) x.len (itc (Ck.of L x)));have HB1:=H_ (((Below.refl W.heap.size W).drew).trans hb1);have hcc:=(HB1.out.cell (p:=⟨w.heap.size,0,none⟩) HV.out.lt).trans hc;have hca:=(af_ w1 (.cells #[.slice A1 x.len c1] 31) ⟨w.heap.size,0,none⟩ (by have:=HB1.out.size;have:w1.drew.heap.size=w1.heap.size:=rfl;simp;omega)).trans hcc;have HC1:=H_ (d_ hc1 hc2);clear ho1 hb1 hc1 hc2;refine wpAnyIn_ready (rs:=[3]) (by kernel_rfl) (by simp) ?_;refine AllReadyIn.cons rfl (fun K hK=>?_) ?_
     ·go_simp
      refine hK _ _ ?_;clear hK K;refine wpAnyIn_ready (rs:=[4]) (by kernel_rfl) (by simp) ?_;refine AllReadyIn.cons rfl (fun K hK=>?_) ?_
      ·refine jk1 rfl (.tmp 13) (.tmp 16) _ rfl (w.heap.size+3) 31 i0 _ 1 24 Tryz.underlying44 hi0 hz0 hz1 hz2 rfl (by omega) (by have:=HB1.out.size;rw[A_];omega) v pre.length vs rfl ((own_below HOWN.out HB1.out).alloc _) _ (some ⟨w1.heap.size,0,none⟩) 1 1 [.slice A1 x.len c1] rfl (Row.new w1 #[.slice A1 x.len c1] 31 rfl) (by simp[Value.oneCell']) (pre.length+1) _ rfl rfl (by unfold maxLen;omega) (by omega) ?_
       intro A3 c3 w3 hown3 hg3 _ _ _;have HW:=H_ (d_ hown3 hg3);clear hown3 hg3;have hv1:Boxed w1 w.heap.size 44 v:=(HB1.out.block _ HV.out.lt).trans HV.out;obtain⟨hx1,hx2,hx3,hx4,hx5⟩:=hv1.appended (by decide) (own_base (own_below HOWN.out HB1.out) (am_ _ 3)) (by have:=HB1.out.size;omega) l_ (own_base HW.out.1 (am_ _ 3)) HW.out.2;have hcc3:=hx1.cell;have hcf3:=hx1.frozen;have HX:=H_ (d_ hx1 (d_ hx2 (d_ hx4 hx5)));clear hx1 hx2 hx3 hx4 hx5 hv1;refine hK _ _ ?_;clear hK K;refine wpAnyIn_ready (rs:=[5]) (by kernel_rfl) (by simp) ?_;refine AllReadyIn.cons rfl (fun K hK=>?_) ?_
       ·go_simp
        refine hK _ _ ?_;clear hK K;refine wpAnyIn_done (by kernel_rfl) ?_ _
        gi_wp2
        exact mq1 _ HW.out.1 HW.out.2 HB1.out HO1.out HC1.out HX.out HEL.out HOWN.out hsz HBW.out
       exact AllReadyIn.nil
      exact AllReadyIn.nil
     exact AllReadyIn.nil
    exact AllReadyIn.nil
   refine AllReadyIn.cons rfl (fun K hK=>?_) ?_
   ·go_simp
    gi_wp2_with (refine⟨trivial,?_⟩;gi_at_call 312;refine(CallsIn.inRound l (callsIn_wide.2 (tj1 _ x.len _ (Ck.of L x) _ (by omega) (by omega) HROW.out))).mono ?_;rintro e w1 ⟨A1,c1,rfl,ho1,hc1,hc2,hb1⟩)
    have HO1:=H_ (ho1:w1.ownsRow W.heap.size 36 5 (.slice A1 x.len c1) x.len (itc (Ck.of L x)));have HB1:=H_ (((Below.refl W.heap.size W).drew).trans hb1);have hcc:=(HB1.out.cell (p:=⟨w.heap.size,0,none⟩) HV.out.lt).trans hc;have hca:=(af_ w1 (.cells #[.slice A1 x.len c1] 31) ⟨w.heap.size,0,none⟩ (by have:=HB1.out.size;have:w1.drew.heap.size=w1.heap.size:=rfl;simp;omega)).trans hcc;have HC1:=H_ (d_ hc1 hc2);clear ho1 hb1 hc1 hc2;refine wpAnyIn_ready (rs:=[0,3]) (by kernel_rfl) (by simp) ?_;refine AllReadyIn.cons rfl (fun K hK=>?_) ?_
    ·go_simp
     refine hK _ _ ?_;clear hK K;refine wpAnyIn_ready (rs:=[3]) (by kernel_rfl) (by simp) ?_;refine AllReadyIn.cons rfl (fun K hK=>?_) ?_
     ·go_simp
      refine hK _ _ ?_;clear hK K;refine wpAnyIn_ready (rs:=[4]) (by kernel_rfl) (by simp) ?_;refine AllReadyIn.cons rfl (fun K hK=>?_) ?_
      ·refine jk1 rfl (.tmp 13) (.tmp 16) _ rfl (w.heap.size+3) 31 i0 _ 1 24 Tryz.underlying44 hi0 hz0 hz1 hz2 rfl (by omega) (by have:=HB1.out.size;rw[A_];omega) v pre.length vs rfl ((own_below HOWN.out HB1.out).alloc _) _ (some ⟨w1.heap.size,0,none⟩) 1 1 [.slice A1 x.len c1] rfl (Row.new w1 #[.slice A1 x.len c1] 31 rfl) (by simp[Value.oneCell']) (pre.length+1) _ rfl rfl (by unfold maxLen;omega) (by omega) ?_
       intro A3 c3 w3 hown3 hg3 _ _ _;have HW:=H_ (d_ hown3 hg3);clear hown3 hg3;have hv1:Boxed w1 w.heap.size 44 v:=(HB1.out.block _ HV.out.lt).trans HV.out;obtain⟨hx1,hx2,hx3,hx4,hx5⟩:=hv1.appended (by decide) (own_base (own_below HOWN.out HB1.out) (am_ _ 3)) (by have:=HB1.out.size;omega) l_ (own_base HW.out.1 (am_ _ 3)) HW.out.2;have hcc3:=hx1.cell;have hcf3:=hx1.frozen;have HX:=H_ (d_ hx1 (d_ hx2 (d_ hx4 hx5)));clear hx1 hx2 hx3 hx4 hx5 hv1;refine hK _ _ ?_;clear hK K;refine wpAnyIn_ready (rs:=[5]) (by kernel_rfl) (by simp) ?_;refine AllReadyIn.cons rfl (fun K hK=>?_) ?_
       ·go_simp
        refine hK _ _ ?_;clear hK K;refine wpAnyIn_done (by kernel_rfl) ?_ _
        gi_wp2
        exact mq1 _ HW.out.1 HW.out.2 HB1.out HO1.out HC1.out HX.out HEL.out HOWN.out hsz HBW.out
       exact AllReadyIn.nil
      exact AllReadyIn.nil
     exact AllReadyIn.nil
    refine AllReadyIn.cons rfl (fun K hK=>?_) ?_
    ·go_simp
     refine hK _ _ ?_;clear hK K;refine wpAnyIn_ready (rs:=[0]) (by kernel_rfl) (by simp) ?_;refine AllReadyIn.cons rfl (fun K hK=>?_) ?_
     ·go_simp
      refine hK _ _ ?_;clear hK K;refine wpAnyIn_ready (rs:=[4]) (by kernel_rfl) (by simp) ?_;refine AllReadyIn.cons rfl (fun K hK=>?_) ?_
      ·refine jk1 rfl (.tmp 13) (.tmp 16) _ rfl (w.heap.size+3) 31 i0 _ 1 24 Tryz.underlying44 hi0 hz0 hz1 hz2 rfl (by omega) (by have:=HB1.out.size;rw[A_];omega) v pre.length vs rfl ((own_below HOWN.out HB1.out).alloc _) _ (some ⟨w1.heap.size,0,none⟩) 1 1 [.slice A1 x.len c1] rfl (Row.new w1 #[.slice A1 x.len c1] 31 rfl) (by simp[Value.oneCell']) (pre.length+1) _ rfl rfl (by unfold maxLen;omega) (by omega) ?_
       intro A3 c3 w3 hown3 hg3 _ _ _;have HW:=H_ (d_ hown3 hg3);clear hown3 hg3;have hv1:Boxed w1 w.heap.size 44 v:=(HB1.out.block _ HV.out.lt).trans HV.out;obtain⟨hx1,hx2,hx3,hx4,hx5⟩:=hv1.appended (by decide) (own_base (own_below HOWN.out HB1.out) (am_ _ 3)) (by have:=HB1.out.size;omega) l_ (own_base HW.out.1 (am_ _ 3)) HW.out.2;have hcc3:=hx1.cell;have hcf3:=hx1.frozen;have HX:=H_ (d_ hx1 (d_ hx2 (d_ hx4 hx5)));clear hx1 hx2 hx3 hx4 hx5 hv1;refine hK _ _ ?_;clear hK K;refine wpAnyIn_ready (rs:=[5]) (by kernel_rfl) (by simp) ?_;refine AllReadyIn.cons rfl (fun K hK=>?_) ?_
       ·go_simp
        refine hK _ _ ?_;clear hK K;refine wpAnyIn_done (by kernel_rfl) ?_ _
        gi_wp2
        exact mq1 _ HW.out.1 HW.out.2 HB1.out HO1.out HC1.out HX.out HEL.out HOWN.out hsz HBW.out
       exact AllReadyIn.nil
      exact AllReadyIn.nil
     exact AllReadyIn.nil
    exact AllReadyIn.nil
   exact AllReadyIn.nil
  exact AllReadyIn.nil
 case done=>
  rintro D ys W hD hys ⟨⟨_,v,hv,hcu⟩,hB⟩ hK;have hc:=hv.cell
  gi_wp2
  have hcu2:=hcu.kept (grownBy_putObj' W D (.deferred none)) (fun r e cs fr=>by cases e;rw[hK];exact⟨nofun,nofun⟩);obtain⟨A',k',c',rfl,hkc1,hkc2⟩:∃A' k c',v=.slice A' k c'∧k≤c'∧c'≤maxLen:=by
   obtain⟨vs,h1,_⟩:=hcu;obtain⟨A',c',e,h2,h3,_⟩:=dw h1;exact⟨_,_,_,e,h2,h3⟩
  obtain⟨hk',hrows⟩:=hcu2.rows;refine⟨by simp,.inl ⟨_,_,rfl,run_takeDeferred hK,?_⟩⟩;exact⟨_,results_tmp rfl _ _ _,A',k',c',rfl,hkc1,hkc2,by rw[←hys];exact hrows,hB.trans (belowK_b (w:=w) l_ W D _ _ (by simp at hD;omega) hK rfl rfl)⟩
 case stop=>
  rintro D c pre W _ _ h _;exact h.elim
end
section
open Go
def cont (d:Sd) (s:List UInt8):Option (List UInt8):=(d.names.get s).map fun i=>(d.files.getD i ([],0)).1
def upd (f:List UInt8→Option (List UInt8)) (s:List UInt8) (v:Option (List UInt8)):List UInt8→Option (List UInt8):=fun t=>if t=s then v else f t
structure Calm (d:Sd):Prop where
 wf:d.Wf
 dead:d.dead=false
 stop:d.stop=0
 fail:d.fail=0
 inj:∀p∈d.names,∀q∈d.names,p.2=q.2→p.1=q.1
structure Small (d:Sd) (K:List (List UInt8)) (B:Nat):Prop where
 names:∀s x,cont d s=some x→s∈K
 len:∀s x,cont d s=some x→x.length≤B
namespace Calm
variable {d:Sd} {s:List UInt8}
theorem new (q:Int) (hq:q≤1099511627776):Calm (Sd.new q):=⟨Sd.ay4 q hq,rfl,rfl,rfl,fun p hp=>by cases hp⟩
theorem vk1 (q:Int):cont (Sd.new q)=fun _=>none:=rfl
theorem call (h:Calm d) {l:List (List UInt8)} (hl:l.all Sd.named=true):d.call l=({ d with calls:=RowKit.wrap64 (d.calls+1) },0):=by
 unfold Sd.call;rw[if_neg (by simp[hl])];simp only[h.dead,h.stop,h.fail];rfl
theorem vw2 {x:List UInt8} (hc:cont d s=some x):∃i,d.names.get s=some i∧(d.files.getD i ([],0)).1=x:=by
 unfold cont at hc
 cases hg:d.names.get s with
 |none=>rw[hg]at hc;cases hc
 |some i=>rw[hg]at hc;injection hc with hc;exact⟨i,rfl,hc⟩
theorem get_none (hc:cont d s=none):d.names.get s=none:=by
 unfold cont at hc
 cases hg:d.names.get s with
 |none=>rfl
 |some i=>rw[hg]at hc;cases hc
theorem vj4 (h:Calm d) (n:Int):Calm { d with calls:=n }:=by
 obtain⟨⟨a1,a2,a3,a4,a5,a6,a7,a8,b1,b2,b3,a9,a10⟩,c1,c2,c3,c4⟩:=h;exact⟨⟨a1,a2,a3,a4,a5,a6,a7,a8,b1,b2,b3,a9,a10⟩,c1,c2,c3,c4⟩
theorem xw3 (h:Calm d) (hs:Sd.named s=true) (hc:cont d s=none):(d.read s).2=11:=by
 unfold Sd.read;rw[if_neg (by simp[hs]),if_neg (by simp[h.dead]),get_none hc]
theorem create (h:Calm d) (hs:Sd.named s=true) (hc:cont d s=none) (hn:d.names.length < 64):(d.create s).2=0∧Calm (d.create s).1∧cont (d.create s).1=upd (cont d) s (some [])∧(d.create s).1.quota=d.quota:=by
 have hw:=h.wf.create s;have hg:=get_none hc;have e:d.create s=({ d with calls:=RowKit.wrap64 (d.calls+1),names:=d.names.put s d.files.length,turns:=d.turns++[⟨1,d.files.length,s,[]⟩],files:=d.files++[([],0)] },0):=by
  unfold Sd.create;rw[h.call (by simpa using hs)];simp only[ne_eq,not_true_eq_false,if_false,hg,Option.isSome_none,ao_];rw[if_neg (by omega)]
 rw[e]at hw ⊢;refine⟨rfl,⟨hw,h.dead,h.stop,h.fail,fun p hp q hq he=>?_⟩,?_,rfl⟩
 ·rcases Nm.vz.1 hp with rfl|⟨hp,_⟩ <;>rcases Nm.vz.1 hq with rfl|⟨hq,_⟩
  ·rfl
  ·have:=h.wf.names q hq
   simp only at he;omega
  ·have:=h.wf.names p hp
   simp only at he;omega
  ·exact h.inj p hp q hq he
 ·funext t
  unfold cont upd
  dsimp only
  by_cases ht:t=s
  ·subst ht
   rw[if_pos rfl,Nm.uv1 h.wf.apart];simp
  ·rw[if_neg ht,Nm.iz1 h.wf.apart ht]
   cases hgt:d.names.get t with
   |none=>rfl
   |some i=>
    have hi:=h.wf.names _ (Nm.get_mem hgt);simp only at hi;simp[C_,J_ hi]
theorem kw3 (h:Calm d) {i:Nat} (hg:d.names.get s=some i) (f:List UInt8×Nat):cont { d with files:=d.files.set i f }=upd (cont d) s (some f.1):=by
 funext t
 have hi:i < d.files.length:=h.wf.names _ (Nm.get_mem hg);unfold cont upd
 dsimp only
 by_cases ht:t=s
 ·subst ht
  rw[if_pos rfl,hg];simp[C_,hi]
 ·rw[if_neg ht]
  cases hgt:d.names.get t with
  |none=>rfl
  |some j=>
   have hij:i≠j:=fun e=>ht ((h.inj _ (Nm.get_mem hgt) _ (Nm.get_mem hg) (by simp[e])));simp[C_,List.getElem?_set,hij]
theorem append (h:Calm d) (hs:Sd.named s=true) {x:List UInt8} (hc:cont d s=some x) (b:List UInt8) (h1:x.length+b.length≤250000) (h2:d.used+b.length≤d.quota):(d.append s b).2=0∧Calm (d.append s b).1∧cont (d.append s b).1=upd (cont d) s (some (x++b))∧(d.append s b).1.quota=d.quota:=by
 have hw:=h.wf.append s b;obtain⟨i,hg,hx⟩:=vw2 hc;have e:d.append s b=({ d with calls:=RowKit.wrap64 (d.calls+1),files:=d.files.set i (x++b,(d.files.getD i ([],0)).2) },0):=by
  unfold Sd.append;rw[h.call (by simpa using hs)];simp only[ne_eq,not_true_eq_false,if_false,hg];unfold Sd.size;rw[hx,if_neg (by omega),if_neg (by omega)]
 rw[e]at hw ⊢;refine⟨rfl,⟨hw,h.dead,h.stop,h.fail,h.inj⟩,?_,rfl⟩;exact(h.vj4 (RowKit.wrap64 (d.calls+1))).kw3 hg _
theorem sync (h:Calm d) (hs:Sd.named s=true) {x:List UInt8} (hc:cont d s=some x):(d.sync s).2=0∧Calm (d.sync s).1∧cont (d.sync s).1=cont d∧(d.sync s).1.quota=d.quota:=by
 have hw:=h.wf.sync s;obtain⟨i,hg,hx⟩:=vw2 hc;have e:d.sync s=({ d with calls:=RowKit.wrap64 (d.calls+1),files:=d.files.set i (x,d.size i) },0):=by
  unfold Sd.sync;rw[h.call (by simpa using hs)];simp only[ne_eq,not_true_eq_false,if_false,hg];rw[hx]
 rw[e]at hw ⊢;refine⟨rfl,⟨hw,h.dead,h.stop,h.fail,h.inj⟩,?_,rfl⟩;have h2:=(h.vj4 (RowKit.wrap64 (d.calls+1))).kw3 hg (x,d.size i);refine h2.trans ?_
 funext t
 unfold upd;split
 ·subst_vars;exact hc.symm
 ·rfl
theorem qj (h:Calm d) {K:List (List UInt8)} {B:Nat} (hk:Small d K B):d.names.length≤K.length∧d.used≤K.length *B:=by
 have key:∀(m:Nm) (K:List (List UInt8)),Nm.Apart m→(∀p∈m,p.1∈K∧d.size p.2≤B)→m.length≤K.length∧(m.map fun p=>d.size p.2).sum≤K.length *B:=by
  intro m
  induction m with
  |nil=>intro K _ _;simp
  |cons p r ih=>
   intro K ha hm;obtain⟨h1,h2⟩:=Z_.1 ha;obtain⟨hp,hs⟩:=hm p (by simp);have hl:=List.length_erase_of_mem hp;have hpos:0 < K.length:=List.length_pos_of_mem hp;obtain⟨i1,i2⟩:=ih (K.erase p.1) h2 (fun q hq=>⟨by
    have:=(hm q (by simp[hq])).1;exact(List.mem_erase_of_ne (fun e=>h1 q hq e.symm)).2 this,(hm q (by simp[hq])).2⟩)
   rw[hl]at i1 i2;refine⟨by simp;omega,?_⟩;simp only[aw_,b7_];have e:K.length *B=(K.length - 1)*B+B:=by
    conv=>lhs;rw[show K.length=(K.length - 1)+1 by omega,bl_,Nat.one_mul]
   omega
 refine key d.names K h.wf.apart (fun p hp=>?_);have hg:=Nm.av2 h.wf.apart (s:=p.1) (i:=p.2) (by simpa using hp);have hc:cont d p.1=some (d.files.getD p.2 ([],0)).1:=by unfold cont;rw[hg];rfl
 exact⟨hk.names _ _ hc,hk.len _ _ hc⟩
theorem write (h:Calm d) (hs:Sd.named s=true) (hc:cont d s=none) {K:List (List UInt8)} {B:Nat} (hk:Small d K B) (hK:K.length < 64) (b:List UInt8) (h1:b.length≤250000) (h2:(K.length+1)*B+b.length≤d.quota):
  (d.write s b).2=0∧Calm (d.write s b).1∧cont (d.write s b).1=upd (cont d) s (some b)∧(d.write s b).1.quota=d.quota:=by
 obtain⟨l1,l2⟩:=h.qj hk;obtain⟨c1,c2,c3,c4⟩:=h.create hs hc (by omega);have hk2:Small (d.create s).1 (s::K) B:=⟨fun t x ht=>by
  rw[c3]at ht;unfold upd at ht;split at ht
  ·subst_vars;simp
  ·exact f_ _ (hk.names t x ht),fun t x ht=>by
  rw[c3]at ht;unfold upd at ht;split at ht
  ·injection ht with ht;subst ht;simp
  ·exact hk.len t x ht⟩
 obtain⟨_,l4⟩:=c2.qj hk2;have hcs:cont (d.create s).1 s=some []:=by rw[c3,upd,if_pos rfl]
 simp only[r_]at l4;obtain⟨a1,a2,a3,a4⟩:=c2.append hs hcs b (by simp;exact h1) (by rw[c4];omega);have hcb:cont ((d.create s).1.append s b).1 s=some b:=by rw[a3,upd,if_pos rfl];rfl
 obtain⟨b1,b2,b3,b4⟩:=a2.sync hs hcb;unfold Sd.write;rw[if_neg (by simp[c1]),if_neg (by simp[a1])];refine⟨b1,b2,?_,b4.trans (a4.trans c4)⟩;rw[b3,a3,c3]
 funext t
 unfold upd;split<;>rfl
theorem remove (h:Calm d) (hs:Sd.named s=true) {x:List UInt8} (hc:cont d s=some x):(d.remove s).2=0∧Calm (d.remove s).1∧cont (d.remove s).1=upd (cont d) s none∧(d.remove s).1.quota=d.quota:=by
 have hw:=h.wf.remove s;obtain⟨i,hg,hx⟩:=vw2 hc;have e:d.remove s=({ d with calls:=RowKit.wrap64 (d.calls+1),names:=d.names.del s,turns:=d.turns++[⟨3,0,s,[]⟩] },0):=by
  unfold Sd.remove;rw[h.call (by simpa using hs)];simp only[ne_eq,not_true_eq_false,if_false,hg,bH_,ao_];rfl
 rw[e]at hw ⊢;refine⟨rfl,⟨hw,h.dead,h.stop,h.fail,fun p hp q hq he=>h.inj p (Nm.cz1.1 hp).1 q (Nm.cz1.1 hq).1 he⟩,?_,rfl⟩
 funext t
 unfold cont upd
 dsimp only
 by_cases ht:t=s
 ·subst ht
  rw[if_pos rfl,Nm.tx1];rfl
 ·rw[if_neg ht,Nm.qq1 h.wf.apart ht]
theorem rename (h:Calm d) {a b:List UInt8} (ha:Sd.named a=true) (hb:Sd.named b=true) (hne:a≠b) {x:List UInt8} (hc:cont d a=some x):(d.rename a b).2=0∧Calm (d.rename a b).1∧cont (d.rename a b).1=upd (upd (cont d) b (some x)) a none∧(d.rename a b).1.quota=d.quota:=by
 have hw:=h.wf.rename a b;obtain⟨i,hg,hx⟩:=vw2 hc;have hgo:Tn.go ⟨2,0,a,b⟩ d.names=(d.names.put b i).del a:=by unfold Tn.go;simp[hg]
 have e:d.rename a b=({ d with calls:=RowKit.wrap64 (d.calls+1),names:=(d.names.put b i).del a,turns:=d.turns++[⟨2,0,a,b⟩] },0):=by
  unfold Sd.rename;rw[h.call (by simp[ha,hb])];simp only[ne_eq,not_true_eq_false,if_false,hg,bH_,ao_,hne];rw[hgo]
 rw[e]at hw ⊢;have hap:=Nm.fq1 h.wf.apart b i;refine⟨rfl,⟨hw,h.dead,h.stop,h.fail,fun p hp q hq he=>?_⟩,?_,rfl⟩
 ·obtain⟨hp,hpa⟩:=Nm.cz1.1 hp
  obtain⟨hq,hqa⟩:=Nm.cz1.1 hq;have ham:=Nm.get_mem hg
  rcases Nm.vz.1 hp with rfl|⟨hp,_⟩ <;>rcases Nm.vz.1 hq with rfl|⟨hq,_⟩
  ·rfl
  ·exact absurd (h.inj _ ham q hq (by simpa using he)).symm hqa
  ·exact absurd (h.inj p hp _ ham (by simpa using he)) hpa
  ·exact h.inj p hp q hq he
 ·funext t
  unfold cont upd
  dsimp only
  by_cases ht:t=a
  ·subst ht
   rw[if_pos rfl,Nm.tx1];rfl
  ·rw[if_neg ht,Nm.qq1 hap ht]
   by_cases ht2:t=b
   ·subst ht2
    rw[if_pos rfl,Nm.uv1 h.wf.apart];simp only[aK_];rw[hx]
   ·rw[if_neg ht2,Nm.iz1 h.wf.apart ht2]
theorem ay (h:Calm d):(d.ay).2=0∧Calm (d.ay).1∧cont (d.ay).1=cont d∧(d.ay).1.quota=d.quota:=by
 have hw:=h.wf.ay;have e:d.ay=({ d with calls:=RowKit.wrap64 (d.calls+1),lasted:=d.names,turns:=[] },0):=by
  unfold Sd.ay;rw[h.call rfl];rfl
 rw[e]at hw ⊢;exact⟨rfl,⟨hw,h.dead,h.stop,h.fail,h.inj⟩,rfl,rfl⟩
theorem ej1 (h:Calm d):s∈d.list↔∃x,cont d s=some x:=by
 unfold Sd.list;rw[if_neg (by simp[h.dead]),List.mem_mergeSort];constructor
 ·intro hm
  obtain⟨p,hp,rfl⟩:=bc_.1 hm;have hg:=Nm.av2 h.wf.apart (s:=p.1) (i:=p.2) (by simpa using hp);exact⟨_,by unfold cont;rw[hg];rfl⟩
 ·rintro⟨x,hx⟩
  obtain⟨i,hg,_⟩:=vw2 hx;exact bc_.2 ⟨(s,i),Nm.get_mem hg,rfl⟩
end Calm
end
end Go.Proofs.YthjdpplgfdihoaaGreatDoor
