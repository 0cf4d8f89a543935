/- Texts StateC, StateD, StateE, StateF, SkipD in one. No conditions. -/
import Derived.Test.YthjdpplgfdihoaaGreatDoorBunAG
import Derived.Test.YthjdpplgfdihoaaGreatDoorBunAA
import Derived.Shelf.Spec.SlicesInsert
import Derived.Lib.AppendZerosOnto
import Derived.Lib.AppendZeros
import Derived.Lib.Overlaps
import Derived.Laws.Externs
import Derived.Laws.IdiomCopy
import Derived.Test.YthjdpplgfdihoaaGreatDoorBunAF

set_option linter.unusedSimpArgs false
set_option linter.unusedVariables false
set_option maxRecDepth 100000
set_option maxHeartbeats 16000000
namespace Go.Proofs.YthjdpplgfdihoaaGreatDoor
section
open Go Go.RowKit Go.Lib
theorem az1:(Tryz.prog.info? 36).map (fun i=>(i.zero,i.size,i.bytes))=some (some (.agg #[.int .i64 0,.int .i64 0,.int .u64 0,.int .u64 0,.int .i64 0]),5,40):=by kernel_rfl
theorem pv1 (w:World) (ty:TypeId) (b o dLen dCap:Nat) (a:Addr) (sLen sCap:Nat) (cs:List Value) (hn:cs.length=Nat.min sLen dLen *5)
  (hsrc:∀j v,cs[j]?=some v→w.cell? (a.add j)=some v) (hc:∀j,j < cs.length→(w.cell? ⟨b,o+j,none⟩).isSome=true) (hf:∀j,j < cs.length→w.frozen? ⟨b,o+j,none⟩=false) (h1:∀v∈cs,v.oneCell'=true):
  (Builtin.copy_ #[31,31] ty #[.slice (some ⟨b,o,none⟩) dLen dCap,.slice (some a) sLen sCap]).run Tryz.prog w=.ok (goInt (Nat.min sLen dLen)) (w.setCells b o cs):=by
 have hl:=run_loadCells_list (P:=Tryz.prog) w a cs hsrc;have hst:=run_storeCells_cells (P:=Tryz.prog) b o cs 0 w (by simpa using hc) (by simpa using hf) h1;obtain⟨i0,hi0,hz0,hz1,hz2⟩:=info_parts az1;simp[Builtin.copy_,run_underlying Tryz.underlying31,Builtin.lenOf,Builtin.firstCells,sizeOf,typeInfo,hi0,hz1,←hn,hl,hst]
def yq4 (base n:Nat) (L:List It) (F:List Nat) (w:World) (e:Ending) (w':World):Prop:=∃A' c',e=.returned (.slice A' (n+1) c')∧w'.ownsRow base 36 5 (.slice A' (n+1) c') (n+1) (itc L)∧Chg F w w'∧∀g,F=[g]→(Value.slice A' (n+1) c').ownBlock=some g
theorem zz2 (base g n cap i:Nat) (l:List It) (x:It) (vb:Nat) (w:World) (ho:w.ownsRow base 36 5 (.slice (some ⟨g,0,none⟩) n cap) n (itc l)) (hi:i < n) (hroom:n+1≤cap) (hv:BoxO w 36 vb x.cells) (hvg:vb≠g):
  Calls Tryz.prog 244 #[.slice (some ⟨g,0,none⟩) n cap,.int .i64 (i:Int),.slice (some ⟨vb,0,none⟩) 1 1] w (yq4 base n (l.take i++x::l.drop i) [g] w):=by
 have hxl:=ho.1;rw[ik]at hxl;have hln:l.length=n:=by omega
 rcases ho.2 with ⟨_,h0⟩|⟨g',cap',cur,hvv,hbg,hheap,hn,hcm,hcs,htk⟩
 ·omega
 injection hvv with hv1 hv2 hv3;injection hv1 with hv1;injection hv1 with hv1;subst hv1 hv3;clear hv2;have hB:BoxO w 36 g cur.toList:=by unfold BoxO;simpa using hheap
 have hcl:cur.toList.length=cap *5:=by simpa using hcs
 obtain⟨D,hD⟩:∃D,D=itc (l.drop i):=⟨_,rfl⟩;have hDl:D.length=(n - i)*5:=by rw[hD,ik,List.length_drop,hln]
 have hD1:∀v∈D,v.oneCell'=true:=by rw[hD];exact fq1 _
 have hgetc:∀j v,D[j]?=some v→w.drew.cell? ⟨g,i *5+j,none⟩=some v:=fun j v hj=>by
  have hjl:j < (n - i)*5:=by have:=(List.getElem?_eq_some_iff.1 hj).1;omega
  rw[show w.drew.cell? ⟨g,i *5+j,none⟩=w.cell? ⟨g,i *5+j,none⟩ from rfl,hB.cell,←hj,hD,lv2,List.getElem?_drop,←htk,List.getElem?_take,if_pos (by omega)]
 have hsome:∀k,k < cap *5→(w.drew.cell? ⟨g,k,none⟩).isSome=true:=fun k hk=>by
  rw[show w.drew.cell? ⟨g,k,none⟩=w.cell? ⟨g,k,none⟩ from rfl,hB.cell,List.getElem?_eq_getElem (by omega)];rfl
 have hcp1:∀ty dc sc,(Builtin.copy_ #[31,31] ty #[.slice (some ⟨g,(i+1)*5,none⟩) (n - i) dc,.slice (some ⟨g,i *5,none⟩) (n+1 - i) sc]).run Tryz.prog w.drew=.ok (goInt ((n - i:Nat):Int)) (w.drew.setCells g ((i+1)*5) D):=fun ty dc sc=>by
  have hm:Nat.min (n+1 - i) (n - i)=n - i:=by simp only[Nat.min_def];split<;>omega
  have:=pv1 w.drew ty g ((i+1)*5) (n - i) dc ⟨g,i *5,none⟩ (n+1 - i) sc D (by rw[hm,hDl]) (fun j v hj=>by rw[Addr.add_lit];exact hgetc j v hj) (fun j hj=>hsome _ (by omega)) (fun j hj=>hB.drew.free _) hD1
  rwa [hm]at this
 obtain⟨W1,hW1⟩:∃W1,W1=w.drew.setCells g ((i+1)*5) D:=⟨_,rfl⟩;have hB1:BoxO W1 36 g (cur.toList.take ((i+1)*5)++(D++cur.toList.drop ((i+1)*5+D.length))):=by
  rw[hW1];exact BoxO.stores D _ w.drew _ hB.drew (by omega)
 have hC1:Chg [g] w W1:=by
  rw[hW1];exact cq1 g D _ w _ (Chg.refl _ _).drew
 have hv1:BoxO W1 36 vb x.cells:=hv.chg hC1 (by simpa using hvg);rw[←hW1]at hcp1;have hcp2:∀ty dc,(Builtin.copy_ #[31,31] ty #[.slice (some ⟨g,i *5,none⟩) (n+1 - i) dc,.slice (some ⟨vb,0,none⟩) 1 1]).run Tryz.prog W1=.ok (goInt 1) (W1.setCells g (i *5) x.cells):=fun ty dc=>by
  have hm:Nat.min 1 (n+1 - i)=1:=by simp only[Nat.min_def];split<;>omega
  have:=pv1 W1 ty g (i *5) (n+1 - i) dc ⟨vb,0,none⟩ 1 1 x.cells (by rw[hm];rfl) (fun j v hj=>by rw[Addr.add_lit,Nat.zero_add,hv1.cell];exact hj)
   (fun j hj=>by rw[hB1.cell,List.getElem?_eq_getElem (by rw[It.gz]at hj;simp only[List.length_append,List.length_take,List.length_drop];omega)];rfl) (fun j hj=>hB1.free _) (fun v hv=>fq1 [x] v (by simpa [itc] using hv))
  rwa [hm]at this
 obtain⟨W2,hW2⟩:∃W2,W2=W1.setCells g (i *5) x.cells:=⟨_,rfl⟩;have hB2:=BoxO.stores x.cells (i *5) W1 _ hB1 (by simp only[List.length_append,List.length_take,List.length_drop,It.gz];omega);have hC2:=cq1 g x.cells (i *5) w _ hC1;rw[←hW2]at hB2 hC2;simp only[←hW2]at hcp2;have hfin:W2.ownsRow base 36 5 (.slice (some ⟨g,0,none⟩) (n+1) cap) (n+1) (itc (l.take i++x::l.drop i)):=by
  refine⟨by rw[ik,List.length_append,List.length_cons,List.length_take,List.length_drop];omega,.inr ⟨g,cap,_,rfl,hbg,hB2,by omega,hcm,?_,?_⟩⟩
  ·simp only[List.size_toArray,List.length_append,List.length_take,List.length_drop,It.gz]
   omega
  ·have e1:itc (l.take i++x::l.drop i)=cur.toList.take (i *5)++(x.cells++D):=by
    rw[bz1,pz1,←htk,List.take_take,Nat.min_eq_left (by omega),hD];rfl
   rw[e1];have t1:(cur.toList.take ((i+1)*5)++(D++cur.toList.drop ((i+1)*5+D.length))).take (i *5)=cur.toList.take (i *5):=by
    rw[List.take_append_of_le_length (by rw[List.length_take];omega),List.take_take,Nat.min_eq_left (by omega)]
   have t2:(cur.toList.take ((i+1)*5)++(D++cur.toList.drop ((i+1)*5+D.length))).drop (i *5+x.cells.length)=D++cur.toList.drop ((i+1)*5+D.length):=by
    rw[It.gz,show i *5+5=(i+1)*5 by omega,List.drop_append_of_le_length (by rw[List.length_take];omega),List.drop_take,Nat.sub_self,List.take_zero,List.nil_append]
   rw[t1,t2,List.toList_toArray,←List.append_assoc,←List.append_assoc,List.take_append_of_le_length (by simp only[List.length_append,List.length_take,It.gz];omega),List.take_of_length_le (by simp only[List.length_append,List.length_take,It.gz];omega),List.append_assoc]
 have hsB:w.shape? g=some (36,cap *5):=by unfold World.shape?;rw[hheap];simp[hcs]
 have hsV:w.shape? vb=some (36,5):=by unfold World.shape?;rw[show w.heap[vb]?=_ from hv];rfl
 have hov:∀lb cb,(callFunc 304 #[.slice (some ⟨vb,0,none⟩) 1 1,.slice (some ⟨g,(i+1)*5,none⟩) lb cb]).run Tryz.prog w=.ok (.value (.bool false)) w:=fun lb cb=>by
  rw[run_callFunc_extern Tryz.func304 (by kernel_rfl) (by kernel_rfl) (by kernel_rfl) (e:=Extern.SlicesOverlaps.overlaps #[31,31] #[4]) (by kernel_rfl),
   Lib.run_overlaps_apart w 31 4 36 Tryz.underlying31 5 Tryz.sizeOf36 ⟨vb,0,none⟩ ⟨g,(i+1)*5,none⟩ 1 1 lb cb hvg 36 36 5 (cap *5) hsV hsB (by omega) (hv.free _) (hv.free _)]
  rfl
 have HFIN:=Lib.hid (And.intro hfin (And.intro hC2 (fun g' (h:[g]=[g'])=>show (Value.slice (some (⟨g,0,none⟩:Addr)) (n+1) cap).ownBlock=some g' by injection h with h;rw[←h];rfl)));have hw1:IntKind.i64.wrap ((i:Int)+1)=(i:Int)+1:=by rw[IntKind.wrap_i64];unfold maxLen at hcm;omega
 have hb1:(0:Int)≤(i:Int)+1:=by omega
 have hin:i≤n:=by omega
 have htn:((i:Int)+1).toNat=i+1:=by omega
 have hz2:¬((i:Int)=(n:Int)):=by omega
 have hb2:¬(cap=i+1):=by omega
 have hb3:(i:Int)≤(n:Int)+1:=by omega
 have hb4:¬(cap=i):=by omega
 unfold maxLen at hcm;clear ho hheap hB hcl hgetc hD hDl hD1 hsome hB1 hC1 hv1 hB2 hC2 hfin htk hcs hxl hv hW1 hW2 hsB hsV;go_enter Tryz.func244,Tryz.ntmps244;go_wp2_with (simp only[hov])
 go_region_law (refine step_copy_runI rfl _ _ 31 31 rfl (.slice (some ⟨g,(i+1)*5,none⟩) (n - i) (cap - (i+1))) (.slice (some ⟨g,i *5,none⟩) (n+1 - i) (cap - i)) (by simp[Act.eval,Act.put]) (by simp[Act.eval,Act.put]) (hcp1 _ _ _) ?_)
 go_wp2_with (at_builtin;refine wpList_copy_runI _ rfl _ _ 31 31 rfl _ _ rfl rfl (hcp2 _ _) ?_);go_ret;exact⟨_,_,rfl,HFIN.out⟩
theorem kq3 (base:Nat) (A:Option Addr) (n cap:Nat) (l:List It) (x:It) (vb:Nat) (w:World) (hn:n≤1000000) (hbase:base≤w.heap.size) (ho:w.ownsRow base 36 5 (.slice A n cap) n (itc l)) (hv:BoxO w 36 vb x.cells):
  Calls Tryz.prog 244 #[.slice A n cap,.int .i64 (n:Int),.slice (some ⟨vb,0,none⟩) 1 1] w fun e w'=>∃A' c',e=.returned (.slice A' (n+1) c')∧w'.ownsRow base 36 5 (.slice A' (n+1) c') (n+1) (itc (l++[x]))∧Chg (Value.slice A n cap).ownBlock.toList w w'∧((Value.slice A' (n+1) c').ownBlock=(Value.slice A n cap).ownBlock∨(Value.slice A' (n+1) c').ownBlock=some w.heap.size):=by
 obtain⟨i0,hi0,hz0,hz1,hz2⟩:=info_parts az1;obtain⟨A1,c1,hv0,hnc,hcm,_⟩:=ay ho;injection hv0 with e1 e2 e3;subst e1 e3;clear e2;have hrow:Row w.heap.size w (some ⟨vb,0,none⟩) 1 5 x.cells:=⟨rfl,fun j hj=>⟨_,rfl,hv.lt,by
  rw[show ((⟨vb,0,none⟩:Addr).add j)=⟨vb,j,none⟩ by rw[Addr.add_lit,Nat.zero_add],hv.cell];exact List.getElem?_eq_getElem hj⟩⟩
 have hlx:itc l++x.cells=itc (l++[x]):=by rw[bz1];simp[itc]
 have h1c:∀u∈x.cells,u.oneCell'=true:=fun v hv=>fq1 [x] v (by simpa [itc] using hv);have HR:=Lib.hid hrow;have HO:=Lib.hid ho;have HLX:=Lib.hid hlx;have H1:=Lib.hid h1c;unfold maxLen at hcm;clear ho hv hrow hlx h1c
 rcases Nat.eq_or_lt_of_le hnc with hq|hq
 ·subst hq
  go_enter Tryz.func244,Tryz.ntmps244;go_wp2_with (at_builtin;refine jq ?_);refine gy (xq rfl (.tmp 23) (.tmp 24) _ rfl base 36 i0 _ 5 40 Tryz.underlying31 hi0 hz0 hz1 hz2 rfl (by omega) w (Below.refl _ _) hbase _ n (itc l) rfl HO.out w.heap.size _ 1 1 (by omega) x.cells rfl HR.out H1.out (n+1) (itc (l++[x])) rfl HLX.out (by unfold maxLen;omega) (by omega) ?_);intro A' c' w' h1 h2 h3 h4 h5 h6;have H6:=Lib.hid (And.intro (Chg.uy (F:=(Value.slice A n n).ownBlock.toList) h3 (fun b hb=>by have hb2:(Value.slice A n n).ownBlock=some b:=hb;rw[hb2];simp)) h6);clear h6;go_wp2;go_ret;exact⟨_,_,rfl,h1,H6.out⟩
 ·have hq2:¬cap=n:=by omega
  go_enter Tryz.func244,Tryz.ntmps244;go_wp2_with (at_builtin;refine jq ?_);refine gy (xq rfl (.tmp 23) (.tmp 24) _ rfl base 36 i0 _ 5 40 Tryz.underlying31 hi0 hz0 hz1 hz2 rfl (by omega) w (Below.refl _ _) hbase _ n (itc l) rfl HO.out w.heap.size _ 1 1 (by omega) x.cells rfl HR.out H1.out (n+1) (itc (l++[x])) rfl HLX.out (by unfold maxLen;omega) (by omega) ?_);intro A' c' w' h1 h2 h3 h4 h5 h6;have H6:=Lib.hid (And.intro (Chg.uy (F:=(Value.slice A n cap).ownBlock.toList) h3 (fun b hb=>by have hb2:(Value.slice A n cap).ownBlock=some b:=hb;rw[hb2];simp)) h6);clear h6;go_wp2;go_ret;exact⟨_,_,rfl,h1,H6.out⟩
theorem xj2 (base g n i:Nat) (l:List It) (x:It) (vb:Nat) (w:World) (hsm:n≤1000000) (hbase:base≤w.heap.size) (ho:w.ownsRow base 36 5 (.slice (some ⟨g,0,none⟩) n n) n (itc l)) (hi:i < n) (hv:BoxO w 36 vb x.cells):
  Calls Tryz.prog 244 #[.slice (some ⟨g,0,none⟩) n n,.int .i64 (i:Int),.slice (some ⟨vb,0,none⟩) 1 1] w fun e w'=>∃A' c',e=.returned (.slice A' (n+1) c')∧w'.ownsRow base 36 5 (.slice A' (n+1) c') (n+1) (itc (l.take i++x::l.drop i))∧Below w.heap.size w w'∧(Value.slice A' (n+1) c').ownBlock=some w.heap.size:=by
 obtain⟨i0,hi0,hz0,hz1,hz2⟩:=info_parts az1;have hxl:=ho.1;rw[ik]at hxl;have hln:l.length=n:=by omega
 have hr:=Row.own ho;obtain⟨a0,hae,hgw⟩:=hr.some_ (by rw[ik];omega);injection hae with hae;subst hae;have hcell:∀j v,(itc l)[j]?=some v→w.cell? ⟨g,j,none⟩=some v:=fun j v hj=>by
  have:=hr.cells j v hj
  rwa [Addr.add_lit,Nat.zero_add]at this
 obtain⟨N,hN⟩:∃N,N=w.heap.size:=⟨_,rfl⟩;obtain⟨G,hG⟩:∃G,G=grownCap w (n+1) n 36:=⟨_,rfl⟩;have hGn:n+1≤G:=by rw[hG];exact grownCap_ge w _ _ _
 have hG63:G≤maxLen:=by rw[hG];exact grownCap_le_maxLen w (n+1) n 36 (by unfold maxLen;omega)
 have hol:((itc l).take (i *5)).length=i *5:=by rw[List.length_take,ik];omega
 have hold:(Builtin.firstCells i0.size i (.slice (some ⟨g,0,none⟩) i n)).run Tryz.prog w.drew=.ok ((itc l).take (i *5)).toArray w.drew:=by
  rw[hz1];exact run_firstCells_some (P:=Tryz.prog) (w:=w.drew) 5 i ⟨g,0,none⟩ i n _ hol (fun j v hj=>by
   rw[Addr.add_lit,Nat.zero_add];rw[List.getElem?_take]at hj;split at hj
   ·exact hcell j v hj
   ·cases hj)
 obtain⟨ROW,hROW⟩:∃ROW:Array Value,ROW=((itc l).take (i *5)).toArray++Builtin.zeroCells (Value.agg #[.int .i64 0,.int .i64 0,.int .u64 0,.int .u64 0,.int .i64 0]).cells (n+1 - i)++Builtin.zeroCells (Value.agg #[.int .i64 0,.int .i64 0,.int .u64 0,.int .u64 0,.int .i64 0]).cells (G - (n+1)):=⟨_,rfl⟩;have hik:i+(n+1 - i)=n+1:=by omega
 have hrz:∀ty,(Builtin.append_ #[31,3] ty #[.slice (some ⟨g,0,none⟩) i n,.int .i64 ((n:Int)+1 - (i:Int))]).run Tryz.prog w=.ok (.slice (some ⟨N,0,none⟩) (n+1) G) (w.drew.alloc (.cells ROW 36)):=fun ty=>by
  have h:=Lib.run_append_grow_zeros w 31 3 ty 36 i0 _ .i64 .i64 Tryz.underlying31 Tryz.underlying3 hi0 hz0 (some ⟨g,0,none⟩) i n _ hold (n+1 - i) (by omega) (by omega) (by omega) (by omega) (by rw[hz2];omega) (by rw[hz2,hik];exact growslice_fits (by omega) (by omega));rw[hik,←hG,←hN,←hROW]at h;rw[show (n:Int)+1 - (i:Int)=((n+1 - i:Nat):Int) by omega];exact h
 have hzs:∀k,(Builtin.zeroCells (Value.agg #[.int .i64 0,.int .i64 0,.int .u64 0,.int .u64 0,.int .i64 0]).cells k).size=k *5:=fun k=>by simp[Builtin.zeroCells,Value.cells]
 have hRs:ROW.size=G *5:=by
  rw[hROW,Array.size_append,Array.size_append,hzs,hzs,List.size_toArray,hol];omega
 have hRt:ROW.toList.take (i *5)=(itc l).take (i *5):=by
  rw[hROW,Array.toList_append,Array.toList_append,List.append_assoc,List.toList_toArray,List.take_append_of_le_length (by omega),List.take_of_length_le (by omega)]
 obtain⟨D,hD⟩:∃D,D=itc (l.drop i):=⟨_,rfl⟩;have hDl:D.length=(n - i)*5:=by rw[hD,ik,List.length_drop,hln]
 have hD1:∀v∈D,v.oneCell'=true:=by rw[hD];exact fq1 _
 have hDc:∀j v,D[j]?=some v→w.cell? ⟨g,i *5+j,none⟩=some v:=fun j v hj=>by
  refine hcell _ _ ?_
  rwa [hD,lv2,List.getElem?_drop]at hj
 obtain⟨W1,hW1⟩:∃W1,W1=w.drew.alloc (.cells ROW 36):=⟨_,rfl⟩;have hB1:BoxO W1 36 N ROW.toList:=by rw[hW1,hN];exact BoxO.new w.drew ROW 36
 have hb1:Below w.heap.size w W1:=by rw[hW1];exact(ak (Below.refl w.heap.size w)).alloc (Nat.le_refl _) _
 have hv1:BoxO W1 36 vb x.cells:=hv.below hb1;have hRl:ROW.toList.length=G *5:=by simpa using hRs
 have hC1:Chg [N] w W1:=Chg.of_below hb1 [N];rw[←hW1]at hrz;have hcpA:∀ty dc,(Builtin.copy_ #[31,31] ty #[.slice (some ⟨N,i *5,none⟩) (n+1 - i) dc,.slice (some ⟨vb,0,none⟩) 1 1]).run Tryz.prog W1=.ok (goInt 1) (W1.setCells N (i *5) x.cells):=fun ty dc=>by
  have hm:Nat.min 1 (n+1 - i)=1:=by simp only[Nat.min_def];split<;>omega
  have:=pv1 W1 ty N (i *5) (n+1 - i) dc ⟨vb,0,none⟩ 1 1 x.cells (by rw[hm];rfl) (fun j v hj=>by rw[Addr.add_lit,Nat.zero_add,hv1.cell];exact hj)
   (fun j hj=>by rw[hB1.cell,List.getElem?_eq_getElem (by rw[It.gz]at hj;omega)];rfl) (fun j hj=>hB1.free _) (fun v hv=>fq1 [x] v (by simpa [itc] using hv))
  rwa [hm]at this
 obtain⟨W2,hW2⟩:∃W2,W2=W1.setCells N (i *5) x.cells:=⟨_,rfl⟩;have hB2:=BoxO.stores x.cells (i *5) W1 _ hB1 (by rw[It.gz];omega);have hC2:=cq1 N x.cells (i *5) w _ hC1;rw[←hW2]at hB2 hC2;simp only[←hW2]at hcpA;rw[hRt,It.gz]at hB2;have hb2:Below w.heap.size w W2:=hC2.below (Nat.le_refl _) (by simp[hN]);have hcpB:∀ty dc sc,(Builtin.copy_ #[31,31] ty #[.slice (some ⟨N,(i+1)*5,none⟩) (n - i) dc,.slice (some ⟨g,i *5,none⟩) (n - i) sc]).run Tryz.prog W2.drew=.ok (goInt ((n - i:Nat):Int)) (W2.drew.setCells N ((i+1)*5) D):=fun ty dc sc=>by
  have hm:Nat.min (n - i) (n - i)=n - i:=Nat.min_self _;have:=pv1 W2.drew ty N ((i+1)*5) (n - i) dc ⟨g,i *5,none⟩ (n - i) sc D (by rw[hm,hDl]) (fun j v hj=>by
    rw[Addr.add_lit];exact(hb2.cell (p:=⟨g,i *5+j,none⟩) hgw).trans (hDc j v hj))
   (fun j hj=>by
    rw[show W2.drew.cell? ⟨N,(i+1)*5+j,none⟩=W2.cell? ⟨N,(i+1)*5+j,none⟩ from rfl,hB2.cell,List.getElem?_eq_getElem (by simp only[List.length_append,List.length_take,List.length_drop,It.gz,ik];omega)];rfl)
   (fun j hj=>hB2.drew.free _) hD1
  rwa [hm]at this
 obtain⟨W3,hW3⟩:∃W3,W3=W2.drew.setCells N ((i+1)*5) D:=⟨_,rfl⟩;have hB3:=BoxO.stores D ((i+1)*5) W2.drew _ hB2.drew (by simp only[List.length_append,List.length_take,List.length_drop,It.gz,ik];omega);have hC3:=cq1 N D ((i+1)*5) w _ hC2.drew;rw[←hW3]at hB3 hC3;simp only[←hW3]at hcpB;have hfin:W3.ownsRow base 36 5 (.slice (some ⟨N,0,none⟩) (n+1) G) (n+1) (itc (l.take i++x::l.drop i)):=by
  refine⟨by rw[ik,List.length_append,List.length_cons,List.length_take,List.length_drop];omega,.inr ⟨N,G,_,rfl,by omega,hB3,hGn,hG63,?_,?_⟩⟩
  ·simp only[List.size_toArray,List.length_append,List.length_take,List.length_drop,It.gz,ik]
   omega
  ·have e1:itc (l.take i++x::l.drop i)=(itc l).take (i *5)++x.cells++D:=by
    rw[bz1,pz1,hD,List.append_assoc];rfl
   have e2:((itc l).take (i *5)++(x.cells++ROW.toList.drop (i *5+5))).take ((i+1)*5)=(itc l).take (i *5)++x.cells:=by
    rw[←List.append_assoc,List.take_append_of_le_length (by simp only[List.length_append,It.gz,hol];omega),List.take_of_length_le (by simp only[List.length_append,It.gz,hol];omega)]
   rw[e1,e2,List.toList_toArray,←List.append_assoc,List.take_append_of_le_length (by simp only[List.length_append,It.gz,hol];omega),List.take_of_length_le (by simp only[List.length_append,It.gz,hol];omega)]
 have hb3:Below w.heap.size w W3:=hC3.below (Nat.le_refl _) (by simp[hN]);have HFIN:=Lib.hid (And.intro hfin (And.intro hb3 (show (Value.slice (some ⟨N,0,none⟩) (n+1) G).ownBlock=some w.heap.size by rw[hN];rfl)));have hw1:IntKind.i64.wrap ((i:Int)+1)=(i:Int)+1:=by rw[IntKind.wrap_i64];omega
 have hb1:(0:Int)≤(i:Int)+1:=by omega
 have hin:i≤n:=by omega
 have htn:((i:Int)+1).toNat=i+1:=by omega
 have hz2:¬((i:Int)=(n:Int)):=by omega
 have hg1:¬(G=i):=by omega
 have hg2:¬(G=i+1):=by omega
 have hb3:(i:Int)≤(n:Int)+1:=by omega
 have hb4:¬(n=i):=by omega
 have HRZ:=Lib.hid hrz;have HA:=Lib.hid hcpA;have HB:=Lib.hid hcpB;unfold maxLen at hG63;clear ho hr hcell hN hG hol hold hROW hik hrz hzs hRs hRt hD hDl hD1 hDc hW1 hB1 hv1 hRl hC1 hcpA hW2 hB2 hC2 hb2 hcpB hW3 hB3 hC3 hfin hv hxl;go_enter Tryz.func244,Tryz.ntmps244;go_wp2_with (first
  |(at_builtin;refine Lib.wpList_append_run _ rfl _ _ _ _ rfl _ _ rfl rfl _ _ (HRZ.out _) ?_)
  |(at_builtin;refine wpList_copy_runI _ rfl _ _ 31 31 rfl _ _ rfl rfl (HA.out _ _) ?_))
 rw[HA.out];go_wp2_with fail
 go_region_law (refine step_copy_runI rfl _ _ 31 31 rfl (.slice (some ⟨N,(i+1)*5,none⟩) (n - i) (G - (i+1))) (.slice (some ⟨g,i *5,none⟩) (n - i) (n - i)) (by simp[Act.eval,Act.put]) (by simp[Act.eval,Act.put]) (HB.out _ _ _) ?_)
 go_wp2;go_ret;exact⟨_,_,rfl,HFIN.out⟩
end
section
open Go Go.RowKit Go.Lib
theorem oy3 (base:Nat) (A:Option Addr) (n cap i:Nat) (l:List It) (x:It) (vb:Nat) (w:World) (hn:n≤1000000) (hi:i≤n) (hbase:base≤w.heap.size) (ho:w.ownsRow base 36 5 (.slice A n cap) n (itc l)) (hv:BoxO w 36 vb x.cells) (hvA:∀a,A=some a→vb≠a.block):
  Calls Tryz.prog 244 #[.slice A n cap,.int .i64 (i:Int),.slice (some ⟨vb,0,none⟩) 1 1] w fun e w'=>∃A' c',e=.returned (.slice A' (n+1) c')∧w'.ownsRow base 36 5 (.slice A' (n+1) c') (n+1) (itc (l.take i++x::l.drop i))∧Chg (Value.slice A n cap).ownBlock.toList w w'∧((Value.slice A' (n+1) c').ownBlock=(Value.slice A n cap).ownBlock∨(Value.slice A' (n+1) c').ownBlock=some w.heap.size):=by
 have hln:l.length=n:=by have:=ho.1;rw[ik]at this;omega
 rcases Nat.eq_or_lt_of_le hi with rfl|hi
 ·rw[List.take_of_length_le (by omega),List.drop_of_length_le (by omega)]
  exact kq3 base A i cap l x vb w hn hbase ho hv
 ·rcases ho.2 with ⟨_,h0⟩|⟨g,cap',cur,hvv,hbg,_,hnc,_⟩
  ·omega
  ·injection hvv with hA _ hc
   subst hA hc
   rcases Nat.lt_or_ge n cap with h1|h1
   ·refine(zz2 base g n cap i l x vb w ho hi h1 hv (hvA _ rfl)).mono ?_
    rintro e w' ⟨A',c',h2,h3,h4,h5⟩;exact⟨A',c',h2,h3,h4,.inl (h5 g rfl)⟩
   ·obtain rfl:cap=n:=by omega
    refine(xj2 base g cap i l x vb w hn hbase ho hi hv).mono ?_;rintro e w' ⟨A',c',h2,h3,h4,h5⟩;exact⟨A',c',h2,h3,Chg.of_below h4 _,.inr h5⟩
theorem ak2 (w:World) (g o k:Nat) (hc:∀j,j < k *5→(w.cell? ⟨g,o+j,none⟩).isSome=true) (hf:∀j,j < k *5→w.frozen? ⟨g,o+j,none⟩=false):
  ∃cs:List Value,cs.length=k *5∧∀ty c,(Builtin.clear_ #[31] ty #[.slice (some ⟨g,o,none⟩) k c]).run Tryz.prog w=.ok (.tuple #[]) (w.setCells g o cs):=by
 refine⟨(Builtin.zeroCells (Value.agg #[.int .i64 0,.int .i64 0,.int .u64 0,.int .u64 0,.int .i64 0]).cells k).toList,by simp[Builtin.zeroCells,Value.cells],fun ty c=>?_⟩;have hl:(Builtin.zeroCells (Value.agg #[.int .i64 0,.int .i64 0,.int .u64 0,.int .u64 0,.int .i64 0]).cells k).toList.length=k *5:=by simp[Builtin.zeroCells,Value.cells]
 have h1:∀v∈(Builtin.zeroCells (Value.agg #[.int .i64 0,.int .i64 0,.int .u64 0,.int .u64 0,.int .i64 0]).cells k).toList,v.oneCell'=true:=fun v hv=>by
  simp only[Builtin.zeroCells,Value.cells,Array.mem_toList_iff,Array.mem_map]at hv;obtain⟨a,_,rfl⟩:=hv;have h5:a % 5 < 5:=Nat.mod_lt _ (by omega);show Value.oneCell' (#[.int .i64 0,.int .i64 0,.int .u64 0,.int .u64 0,.int .i64 0][a % 5]!)=true
  generalize a % 5=b at *
  match b with
  |0=>rfl
  |1=>rfl
  |2=>rfl
  |3=>rfl
  |4=>rfl
  |b+5=>omega
 have hst:=run_storeCells_cells (P:=Tryz.prog) g o (Builtin.zeroCells (Value.agg #[.int .i64 0,.int .i64 0,.int .u64 0,.int .u64 0,.int .i64 0]).cells k).toList 0 w (by simpa [hl] using hc) (by simpa [hl] using hf) h1;simp only[Nat.add_zero]at hst;have hz:(zeroValue 36).run Tryz.prog w=.ok (.agg #[.int .i64 0,.int .i64 0,.int .u64 0,.int .u64 0,.int .i64 0]) w:=by kernel_rfl
 cases k with
 |zero=>simp[Builtin.clear_,run_underlying Tryz.underlying31,Builtin.zeroCells,World.setCells]
 |succ k=>simp[Builtin.clear_,run_underlying Tryz.underlying31,hz,hst]
end
section
open Go Go.RowKit Go.Lib
theorem vk1 {P:It→Bool} {l:List It} {q:Nat} (h:q < l.length):(l.take (q+1)).filter P=(l.take q).filter P++(if P l[q]=true then [l[q]] else []):=by
 rw[List.take_succ_eq_append_getElem h,List.filter_append,List.filter_cons,List.filter_nil]
theorem gy4 {P:It→Bool} {l:List It} (h:l.any P=true):(l.take (l.findIdx P+1)).filter (fun y=>!P y)=l.take (l.findIdx P):=by
 have hl:l.findIdx P < l.length:=List.findIdx_lt_length.2 (by simpa using h);rw[vk1 hl];have h1:P l[l.findIdx P]=true:=List.findIdx_getElem;have h2:(l.take (l.findIdx P)).filter (fun y=>!P y)=l.take (l.findIdx P):=List.filter_eq_self.2 fun y hy=>by
  obtain⟨i,hi,rfl⟩:=List.mem_take_iff_getElem.1 hy;have:=List.not_of_lt_findIdx (p:=P) (xs:=l) (i:=i) (by omega);simpa using this
 rw[h2];simp[h1]
structure Pk (cur cs:List Value) (cap p q:Nat) (L:List It):Prop where
 len:cs.length=cap *5
 pre:cs.take (p *5)=itc L
 post:cs.drop (q *5)=cur.drop (q *5)
 pl:L.length=p
theorem Pk.skip {cur cs:List Value} {cap p q:Nat} {L:List It} (h:Pk cur cs cap p q L):Pk cur cs cap p (q+1) L:=
 ⟨h.len,h.pre,by rw[show (q+1)*5=q *5+5 by omega,←List.drop_drop,h.post,List.drop_drop],h.pl⟩
theorem Pk.keep {cur cs:List Value} {cap p q:Nat} {L:List It} (h:Pk cur cs cap p q L) (hpq:p < q) (hq:q < cap) (y:It):Pk cur (cs.take (p *5)++(y.cells++cs.drop (p *5+y.cells.length))) cap (p+1) (q+1) (L++[y]):=by
 have hl:=h.len;have hpl:=h.pl;refine⟨by simp only[List.length_append,List.length_take,List.length_drop,It.gz];omega,?_,?_,by simp[hpl]⟩
 ·rw[←List.append_assoc,List.take_append_of_le_length (by simp only[List.length_append,List.length_take,It.gz];omega),List.take_of_length_le (by simp only[List.length_append,List.length_take,It.gz];omega),h.pre,bz1]
  simp[itc]
 ·rw[←List.append_assoc,show (q+1)*5=(cs.take (p *5)++y.cells).length+((q - p)*5) by simp only[List.length_append,List.length_take,It.gz];omega,List.drop_append,List.drop_drop,List.drop_eq_nil_of_le (by omega),List.nil_append]
  have:=h.skip.post;rw[show p *5+y.cells.length+((cs.take (p *5)++y.cells).length+(q - p)*5 - (cs.take (p *5)++y.cells).length)=(q+1)*5 by simp only[List.length_append,List.length_take,It.gz];omega,this]
  congr 1
  simp only[List.length_append,List.length_take,It.gz];omega
theorem zk2 (K:Nat) (hF:∀args w,(callFunc K args).run Tryz.prog w=.ok (.enter K args) w) (capt:Array Value) (P:It→Bool) (base:Nat) (A:Option Addr) (n cap:Nat) (l:List It) (w:World) (hn:n≤1000000) (hbase:base≤w.heap.size) (ho:w.ownsRow base 36 5 (.slice A n cap) n (itc l))
  (hK:∀x w1,(∀F,(∀a,A=some a→F=[a.block])→Chg F w w1)→Calls Tryz.prog K (#[x.val] ++capt) w1 fun e w'=>e=.returned (.bool (P x))∧Below w1.heap.size w1 w'):
  Calls Tryz.prog 216 #[.slice A n cap,.func (.func K) #[] capt] w fun e w'=>∃k A' c',e=.returned (.slice A' k c')∧k=(l.filter fun y=>!P y).length∧w'.ownsRow base 36 5 (.slice A' k c') k (itc (l.filter fun y=>!P y))∧Below base w w':=by
 have hidx:=iy3 K hF capt P A n cap l w hn (Row.own ho) (fun x w1 hb=>hK x w1 (fun F _=>Chg.of_below hb F));have hln:l.length=n:=by have:=ho.1;rw[ik]at this;omega
 cases hany:l.any P with
 |false=>
  rw[cx1 hany]at hidx;have hfl:(l.filter fun y=>!P y)=l:=List.filter_eq_self.2 fun y hy=>by
   have:=(List.any_eq_false.1 hany) y hy;simpa using this
  have HF:=Lib.hid hfl;have HO:=Lib.hid ho;have HI:=Lib.hid hidx;have HLN:=Lib.hid hln;clear hidx hany hfl ho hK hln;go_enter Tryz.func216,Tryz.ntmps216;go_wp2_with fail;refine HI.out.mono ?_;rintro e w1 ⟨rfl,hb1⟩;go_wp2;go_ret;exact⟨n,A,cap,rfl,by rw[HF.out];exact HLN.out.symm,by rw[HF.out];exact own_below HO.out hb1,hb1.mono hbase⟩
 |true=>
  rcases ho.2 with ⟨hv0,h0⟩|⟨g,cap',cur,hvv,hbg,hheap,hnc,hcm,hcs,htk⟩
  ·subst h0
   have:l=[]:=List.length_eq_zero_iff.1 hln;subst this
   cases hany
  injection hvv with hA _ hc;subst hA hc;have hB:BoxO w 36 g cur.toList:=by unfold BoxO;simpa using hheap
  have hcl:cur.toList.length=cap *5:=by simpa using hcs
  generalize cur.toList=cu at *;obtain⟨k0,hk0,hkl,hkP,hkf⟩:=cx4 hany;have hpre:=gy4 hany;rw[hkf]at hpre;rw[hk0]at hidx;have hP0:Pk cu cu cap k0 (k0+1) ((l.take (k0+1)).filter fun y=>!P y):=by
   rw[hpre];exact⟨hcl,by rw[pz1,←htk,List.take_take,Nat.min_eq_left (by omega)],rfl,by rw[List.length_take];omega⟩
  have HI:=Lib.hid hidx;have HP0:=Lib.hid hP0;have HB:=Lib.hid hB;have HF:=Lib.hid hF;have HK:=Lib.hid hK;have HTK:=Lib.hid htk;have hkn:k0 < n:=by omega
  unfold maxLen at hcm;clear hidx hP0 hpre hany hkP hkf hk0 hF hK htk hheap ho hB;go_enter Tryz.func216,Tryz.ntmps216;go_wp2_with fail;refine HI.out.mono ?_;rintro e w1 ⟨rfl,hb1⟩;have hB1:=HB.out.below hb1;have hC1:Chg [g] w w1:=Chg.of_below hb1 [g];have e1:((k0:Int)==-1)=false:=by rw[beq_eq_false_iff_ne];omega
  have HB1:=Lib.hid hB1;clear HI HB hB1 hb1;go_wp2_with fail
  go_loopw [5,6] (fun i j wr=>∃p q:Nat,p < q∧q≤n∧i=.int .i64 (p:Int)∧j=.int .i64 (q:Int)∧Hid (∃cs,BoxO wr 36 g cs∧Pk cu cs cap p q ((l.take q).filter fun y=>!P y))∧Chg [g] w wr) (fun i j _=>n - (intOf j).toNat)
  case atStart=>exact⟨k0,k0+1,by omega,by omega,rfl,by go_num,Lib.hid ⟨cu,HB1.out,HP0.out⟩,hC1⟩
  case round=>
   obtain⟨p,q,hpq,hqn,rfl,rfl,HPK,hC⟩:=hrel;clear HB1 HP0 hC1 e1
   by_cases hlt:q < n
   ·obtain⟨cs,hbx,pk⟩:=HPK.out
    have hl:q < l.length:=by omega
    have hq:∀t v,t < 5→(l[q]).cells[t]?=some v→wr.cell? ⟨g,q *5+t,none⟩=some v:=fun t v ht hv=>by
     rw[hbx.cell,show cs[q *5+t]?=(cs.drop (q *5))[t]? by rw[List.getElem?_drop],pk.post,List.getElem?_drop,←hv,←cw3 l q t hl ht,←HTK.out,List.getElem?_take,if_pos (by omega)]
    have hft:=vk1 (P:=fun y=>!P y) hl;generalize l[q]=y at *;have d0:=hq 0 _ (by omega) rfl;rw[Nat.add_zero]at d0;have d1:=hq 1 _ (by omega) rfl;have d2:=hq 2 _ (by omega) rfl;have d3:=hq 3 _ (by omega) rfl;have d4:=hq 4 _ (by omega) rfl;have hC2:Chg [g] w (wr.alloc (.cells #[.int .i64 y.s,.int .i64 y.k,.int .u64 (y.t:Int),.int .u64 (y.v:Int),.int .i64 y.x] 36)):=hC.alloc _;have hk:=HK.out y (wr.alloc (.cells #[.int .i64 y.s,.int .i64 y.k,.int .u64 (y.t:Int),.int .u64 (y.v:Int),.int .i64 y.x] 36)) (fun F hF=>by rw[hF _ rfl];exact hC2);have hbn:=BoxO.new wr #[.int .i64 y.s,.int .i64 y.k,.int .u64 (y.t:Int),.int .u64 (y.v:Int),.int .i64 y.x] 36;have hbx2:=hbx.alloc (.cells #[.int .i64 y.s,.int .i64 y.k,.int .u64 (y.t:Int),.int .u64 (y.v:Int),.int .i64 y.x] 36);unfold It.val at hk;obtain⟨b,hb⟩:∃b,b=P y:=⟨_,rfl⟩;rw[←hb]at hk;have HFT:=Lib.hid hft;have HB:=Lib.hid hb;have HPk:=Lib.hid pk;have HKK:=Lib.hid hk;have hqi:(q:Int) < (n:Int):=by omega
    have hpi:(p:Int) < (n:Int):=by omega
    clear hft hb pk hk hq hbx HPK hl;go_wp2_with fail;rw[HF.out,Oper.upon_enter];refine HKK.out.mono ?_;rintro e w2 ⟨rfl,hb2⟩;have hbn2:=hbn.below hb2;have hbx3:=hbx2.below hb2;have hC3:Chg [g] w w2:=hC2.trans (Chg.of_below hb2 []) (fun g hg=>by cases hg);generalize wr.heap.size=bv at *
    cases b with
    |true=>
     have hpk2:Pk cu cs cap p (q+1) ((l.take (q+1)).filter fun y=>!P y):=by
      rw[HFT.out,←HB.out];simpa using HPk.out.skip
     have HPK2:=Lib.hid hpk2;clear hpk2 d0 d1 d2 d3 d4 HKK hbn hbx2 hC2;go_wp2;go_roundw
     case rel=>exact⟨p,q+1,by omega,by omega,rfl,by go_num,Lib.hid ⟨cs,hbx3,HPK2.out⟩,hC3⟩
     case measure=>simp[intOf];omega
    |false=>
     have hpk2:=HPk.out.keep hpq (by omega) y;have hpe:((l.take (q+1)).filter fun y=>!P y)=((l.take q).filter fun y=>!P y)++[y]:=by
      rw[HFT.out,←HB.out];rfl
     rw[←hpe]at hpk2;have hB4:=BoxO.stores y.cells (p *5) w2 cs hbx3 (by have:=HPk.out.len;rw[It.gz];omega);have hC4:=cq1 g y.cells (p *5) w w2 hC3;have hsome:∀t,t < 5→∃u,w2.cell? ⟨g,p *5+t,none⟩=some u:=fun t ht=>⟨cs[p *5+t]'(by have:=HPk.out.len;omega),by rw[hbx3.cell];exact List.getElem?_eq_getElem _⟩;obtain⟨u0,s0⟩:=hsome 0 (by omega);obtain⟨u1,s1⟩:=hsome 1 (by omega);obtain⟨u2,s2⟩:=hsome 2 (by omega);obtain⟨u3,s3⟩:=hsome 3 (by omega);obtain⟨u4,s4⟩:=hsome 4 (by omega);have z0:=hbx3.free (p *5);have z1:=hbx3.free (p *5+1);have z2:=hbx3.free (p *5+2);have z3:=hbx3.free (p *5+3);have z4:=hbx3.free (p *5+4);have b0:=hbn2.cell 0;have b1:=hbn2.cell 1;have b2:=hbn2.cell 2;have b3:=hbn2.cell 3;have b4:=hbn2.cell 4;simp only[gE0,gE1,Nat.add_zero]at b0 b1 b2 b3 b4 s0;have HPK2:=Lib.hid hpk2;have HB4:=Lib.hid (And.intro hB4 hC4);clear hpk2 hpe hB4 hC4 hsome d0 d1 d2 d3 d4 HKK hbn hbx2 hC2 hbn2 hbx3;go_wp2;go_roundw
     case rel=>exact⟨p+1,q+1,by omega,by omega,by go_num,by go_num,Lib.hid ⟨_,HB4.out.1,HPK2.out⟩,HB4.out.2⟩
     case measure=>simp[intOf];omega
   ·obtain rfl:q=n:=by omega
    obtain⟨cs,hbx,pk⟩:=HPK.out;have hpl:=pk.pl;obtain⟨zs,hzl,hclr⟩:=ak2 wr g (p *5) (q - p) (fun j hj=>by rw[hbx.cell,List.getElem?_eq_getElem (by have:=pk.len;omega)];rfl) (fun j hj=>hbx.free _);obtain⟨W2,hW2⟩:∃W2,W2=wr.setCells g (p *5) zs:=⟨_,rfl⟩;have hB2:=BoxO.stores zs (p *5) wr cs hbx (by have:=pk.len;omega);have hC2:=cq1 g zs (p *5) w wr hC;rw[←hW2]at hB2 hC2;simp only[←hW2]at hclr;have hall:(l.take q).filter (fun y=>!P y)=l.filter (fun y=>!P y):=by rw[List.take_of_length_le (by omega)]
    rw[hall]at pk hpl;have hfin:W2.ownsRow base 36 5 (.slice (some ⟨g,0,none⟩) p cap) p (itc (l.filter fun y=>!P y)):=by
     refine⟨by rw[ik,hpl],.inr ⟨g,cap,_,rfl,hbg,hB2,by omega,by unfold maxLen;omega,?_,?_⟩⟩
     ·have:=pk.len
      simp only[List.size_toArray,List.length_append,List.length_take,List.length_drop];omega
     ·rw[List.toList_toArray,List.take_append_of_le_length (by have:=pk.len;rw[List.length_take];omega),List.take_take,Nat.min_self,pk.pre]
    have HFIN:=Lib.hid (And.intro hpl.symm (And.intro hfin (hC2.below hbase (by simpa using hbg))));have hno:((q:Int) < (q:Int))=False:=eq_false (by omega);have hcp:¬(cap=p):=by omega
    have hpq2:(p:Int)≤(q:Int):=by omega
    have hpq3:p≤q:=by omega
    have hpc:p≤cap:=by omega
    have hpc2:(p:Int)≤(cap:Int):=by omega
    clear hbx pk hpl hzl hB2 hC2 hall hfin HPK hC hW2;go_wp2_with fail;go_ret;exact⟨p,_,_,rfl,HFIN.out⟩
end
section
open Go Go.RowKit Go.Lib
theorem sx2 {l:List It} (h:bq1 l) (x:It) (hk:pos l x < l.length) (hs:It.same l[pos l x] x=true):jq1 l x= !(x.wins l[pos l x])∧put l x=l.set (pos l x) x:=by
 refine⟨?_,vj4 h (List.getElem?_eq_getElem hk) hs⟩;unfold jq1
 cases hw:x.wins l[pos l x] with
 |false=>exact List.any_eq_true.2 ⟨_,List.getElem_mem hk,by simp[hs,hw]⟩
 |true=>
  rw[Bool.not_true,List.any_eq_false];intro y hy hc;simp only[Bool.and_eq_true,Bool.not_eq_true']at hc;have:y=l[pos l x]:=kv1 h hy (List.getElem_mem hk) (by have:=hc.1;rw[It.same_iff]at *;omega);rw[this,hw]at hc
  cases hc.2
theorem fv3 {l:List It} (h:bq1 l) (x:It) (hs:(l.any fun y=>y.same x)=false):jq1 l x=false∧put l x=l.take (pos l x)++x::l.drop (pos l x):=by
 rw[List.any_eq_false]at hs;refine⟨?_,qq3 h (fun y hy=>?_)⟩
 ·unfold jq1
  rw[List.any_eq_false];intro y hy hc;simp only[Bool.and_eq_true]at hc;exact hs y hy hc.1
 ·have:=hs y (List.mem_of_getElem? hy)
  simpa using this
theorem sx4 {base g n cap i:Nat} {l:List It} {w:World} (x:It) (ho:w.ownsRow base 36 5 (.slice (some ⟨g,0,none⟩) n cap) n (itc l)) (hi:i < n):
  (w.setCells g (i *5) x.cells).ownsRow base 36 5 (.slice (some ⟨g,0,none⟩) n cap) n (itc (l.set i x))∧(∀t,t < 5→∃u,w.cell? ⟨g,i *5+t,none⟩=some u)∧(∀t,w.frozen? ⟨g,t,none⟩=false):=by
 have hxl:=ho.1;rw[ik]at hxl
 rcases ho.2 with ⟨_,h0⟩|⟨g',cap',cur,hvv,hbg,hheap,hnc,hcm,hcs,htk⟩
 ·omega
 injection hvv with hv1 hv2 hv3;injection hv1 with hv1;injection hv1 with hv1;subst hv1 hv3;have hB:BoxO w 36 g cur.toList:=by unfold BoxO;simpa using hheap
 have hcl:cur.toList.length=cap *5:=by simpa using hcs
 refine⟨⟨by rw[ik,List.length_set];omega,.inr ⟨g,cap,_,rfl,hbg,BoxO.stores x.cells (i *5) w _ hB (by rw[It.gz];omega),hnc,hcm,?_,?_⟩⟩,fun t ht=>⟨cur.toList[i *5+t]'(by omega),by rw[hB.cell];exact List.getElem?_eq_getElem _⟩,fun t=>hB.free t⟩
 ·simp only[List.size_toArray,List.length_append,List.length_take,List.length_drop,It.gz]
  omega
 ·have e1:itc (l.set i x)=(itc l).take (i *5)++(x.cells++(itc l).drop ((i+1)*5)):=by
   rw[List.set_eq_take_append_cons_drop,if_pos (by omega),bz1,pz1,←lv2];rfl
  rw[e1,←htk,List.take_take,Nat.min_eq_left (by omega),List.drop_take,List.toList_toArray,It.gz,←List.append_assoc,←List.append_assoc,List.take_append,List.take_of_length_le (by simp only[List.length_append,List.length_take,It.gz];omega)]
  congr 2
  ·simp only[List.length_append,List.length_take,It.gz]
   omega
  ·rw[show i *5+5=(i+1)*5 by omega]
theorem zz4 (A:Option Addr) (n c:Nat) (l:List It) (w:World) (hn:n≤1000000) (hr:Row w.heap.size w A n 5 (itc l)):
  Calls Tryz.prog 173 #[.slice A n c] w fun e w'=>∃A' c',e=.returned (.slice A' n c')∧w'.ownsRow w.heap.size 36 5 (.slice A' n c') n (itc l)∧Below w.heap.size w w':=by
 obtain⟨i0,hi0,hz0,hz1,hz2⟩:=info_parts az1;have HR:=Lib.hid hr;clear hr;go_enter Tryz.func173,Tryz.ntmps173;go_wp2_with (at_builtin;refine jq ?_);refine gy (uw rfl _ (.tmp 3) _ rfl w.heap.size 36 i0 _ 5 40 Tryz.underlying31 hi0 hz0 hz1 hz2 rfl (by omega) w (Below.refl _ _) (Nat.le_refl _) rfl w.heap.size A n c (itc l) rfl HR.out (fq1 l) (by unfold maxLen;omega) (by omega) ?_);intro A' c' w' h1 h2 h3 h4 h5;go_wp2;go_ret;exact⟨_,_,rfl,h1,h2⟩
theorem fv4 (x y:It) (b:Nat) (w:World) (hb:BoxO w 36 b x.cells):
  Calls Tryz.prog 245 (#[y.val] ++#[.pointer (some ⟨b,0,none⟩)]) w fun e w'=>e=.returned (.bool (x.hides y))∧Below w.heap.size w w':=by
 have hh:=fun W=>fv2 x y W;have hbo:=(Below.refl w.heap.size w).alloc (Nat.le_refl _) (.cells #[.int .i64 y.s,.int .i64 y.k,.int .u64 (y.t:Int),.int .u64 (y.v:Int),.int .i64 y.x] 36);have hb2:=hb.alloc (.cells #[.int .i64 y.s,.int .i64 y.k,.int .u64 (y.t:Int),.int .u64 (y.v:Int),.int .i64 y.x] 36);have b0:=hb2.cell 0;have b1:=hb2.cell 1;have b2:=hb2.cell 2;have b3:=hb2.cell 3;have b4:=hb2.cell 4;unfold It.val at hh ⊢;simp only[It.cells,gE0,gE1]at b0 b1 b2 b3 b4;have HH:=Lib.hid hh;clear hh hb hb2;go_enter Tryz.func245,Tryz.ntmps245;go_wp2_with fail;refine(HH.out _).mono ?_;rintro e w1 ⟨rfl,hb1⟩;have hbz:=az hbo hb1;go_wp2;go_ret;exact⟨rfl,hbz⟩
theorem gj2 (x:It) (b base:Nat) (A:Option Addr) (n cap:Nat) (l:List It) (w:World) (hn:n≤1000000) (hbase:base≤w.heap.size) (ho:w.ownsRow base 36 5 (.slice A n cap) n (itc l)) (hb:BoxO w 36 b x.cells) (hA:(Value.slice A n cap).ownBlock≠some b):
  Calls Tryz.prog 216 #[.slice A n cap,.func (.func 245) #[] #[.pointer (some ⟨b,0,none⟩)]] w fun e w'=>∃k A' c',e=.returned (.slice A' k c')∧k=(l.filter fun y=>!x.hides y).length∧w'.ownsRow base 36 5 (.slice A' k c') k (itc (l.filter fun y=>!x.hides y))∧Below base w w':=by
 refine zk2 245 (fun _ _=>rfl) #[.pointer (some ⟨b,0,none⟩)] (fun y=>x.hides y) base A n cap l w hn hbase ho (fun y w1 hw=>fv4 x y b w1 ?_)
 cases A with
 |none=>exact hb.chg (hw [] (fun a ha=>by cases ha)) (by simp)
 |some a=>exact hb.chg (hw [a.block] (fun a' ha=>by injection ha with ha;rw[ha])) (by
   intro h;exact hA (by rw[List.mem_singleton.1 h];rfl))
end
section
open Go Go.RowKit Go.Lib
def It.zero:It:=⟨0,0,0,0,0⟩
theorem pj4 (w:World):Calls Tryz.prog 156 #[] w fun e w'=>∃L ns,e=.returned (.pointer (some ⟨L,0,none⟩))∧SkAt w' L ns∧its ns=[]∧Below w.heap.size w w'∧∀g∈skF L ns,w.heap.size≤g:=by
 have ht:=fun W=>rx2 It.zero 6 W (by omega) (by omega);unfold It.val at ht;have HT:=Lib.hid ht;clear ht;go_enter Tryz.func156,Tryz.ntmps156;go_wp2_with fail;refine(HT.out _).mono ?_;rintro e w1 ⟨b,tb,rfl,h1,h2,h3,h4,h5,h6⟩;go_wp2;go_ret;have e1:=h1.alloc (.cells #[.pointer (some ⟨b,0,none⟩),.int .i64 0] 282);have e2:=h2.alloc (.cells #[.pointer (some ⟨b,0,none⟩),.int .i64 0] 282);have hs:=h6.size;have lb:=h1.lt;have lt:=h2.lt;refine⟨w1.heap.size,[⟨It.zero,b,tb,6,6⟩],rfl,⟨⟨fun n hn=>?_,fun i n hi=>?_,fun n hn=>?_,?_⟩,⟨_,[],rfl,rfl,BoxO.new _ _ _⟩,?_,fun n hn=>?_,List.Pairwise.nil⟩,rfl,h6.alloc hs _,fun g hg=>?_⟩
 ·rw[List.mem_singleton.1 hn]
  exact e1
 ·cases i with
  |zero=>
   simp only[gE0,Option.some.injEq]at hi;subst hi;exact⟨_,e2,rfl,fun l hl=>by rw[List.getElem?_replicate,if_pos hl];rfl⟩
  |succ i=>simp at hi
 ·rw[List.mem_singleton.1 hn]
  exact⟨Nat.le_refl _,Nat.le_refl _⟩
 ·simpa using h3
 ·simp
  omega
 ·rw[List.mem_singleton.1 hn]
  exact(by omega:1≤6)
 ·simp[skF]at hg
  omega
def jw2 (w:World) (L:Nat) (ns:List Nd) (R:List It) (e:Ending) (w':World):Prop:=∃bb ns',e=.returned (.tuple #[.bool bb,.int .i64 0])∧SkAt w' L ns'∧its ns'=R∧Chg (skF L ns) w w'∧∀g∈skF L ns',g∈skF L ns∨w.heap.size≤g
theorem wx4 {ns:List Nd} (h:∀n∈ns,1≤n.h) (p:Nat):nxb 0 (ns.drop p)=(ns[p]?).map (·.b):=by
 have e0:(ns.drop p)[0]?=ns[p]?:=by simp
 cases e:ns.drop p with
 |nil=>rw[e]at e0;rw[←e0];rfl
 |cons a r=>
  rw[e]at e0;have ha:a∈ns:=List.mem_of_mem_drop (by rw[e];simp:a∈ns.drop p);have:=h a ha;rw[←e0];unfold nxb nxt;have h0:decide (0 < a.h)=true:=decide_eq_true (by omega);simp[h0]
theorem Pred.insert {A R:List Nd} {n:Nd} {l q j:Nat} (h:Pred (A++R) l q j) (hq:q=A.length):Pred (A++n::R) l A.length j:=by
 subst hq;have e:∀i,i < A.length→(A++n::R)[i]?=(A++R)[i]?:=fun i hi=>by rw[List.getElem?_append_left hi,List.getElem?_append_left hi]
 exact⟨h.lt,by obtain⟨m,h1,h2⟩:=h.on;exact⟨m,(e j h.lt).trans h1,h2⟩,fun i m h1 h2 h3=>h.last i m h1 h2 ((e i h2).symm.trans h3)⟩
theorem ek5 (u0 u1 u2 u3 u4 u5:Value) {k:Nat} (hk:k < 6):∃u,[u0,u1,u2,u3,u4,u5][k]?=some u∧(k=0∧u=u0∨k=1∧u=u1∨k=2∧u=u2∨k=3∧u=u3∨k=4∧u=u4∨k=5∧u=u5):=by
 have e:k=0∨k=1∨k=2∨k=3∨k=4∨k=5:=by omega
 rcases e with rfl|rfl|rfl|rfl|rfl|rfl<;>simp
theorem qk4 (f:Nat→Value) {k:Nat} (hk:k < 6):[f 0,f 1,f 2,f 3,f 4,f 5][k]?=some (f k):=by
 have e:k=0∨k=1∨k=2∨k=3∨k=4∨k=5:=by omega
 rcases e with rfl|rfl|rfl|rfl|rfl|rfl<;>rfl
theorem wz3 (L h:Nat) (ns:List Nd) (x:It) (w:World) (hs:SkAt w L ns) (hk:x.ok=true) (h1:1≤h) (h6:h≤6) (hnl:ns.length≤1000000):
  Calls Tryz.prog 170 #[.pointer (some ⟨L,0,none⟩),x.val,.int .i64 (h:Int)] w (jw2 w L ns (wput (its ns) x)):=by
 have hok:=fun W=>wq1 x W;simp only[hk]at hok;have hbf:=fun W (hW:Below w.heap.size w W)=>qz3 L (pos (its ns) x+1) ns x W (hs.below hW) rfl;have hlt:=hs.lt;unfold It.val at hok hbf;have hb1:(1:Int)≤(h:Int):=by omega
 have hb6:(h:Int)≤6:=by omega
 have hb2:((h:Int) < 1)=False:=eq_false (by omega);have hb7:(6 < (h:Int))=False:=eq_false (by omega);have hW1:=(Below.refl w.heap.size w).alloc (Nat.le_refl _) (.cells #[.int .i64 x.s,.int .i64 x.k,.int .u64 (x.t:Int),.int .u64 (x.v:Int),.int .i64 x.x] 36);have hbx:BoxO (w.alloc (.cells #[.int .i64 x.s,.int .i64 x.k,.int .u64 (x.t:Int),.int .u64 (x.v:Int),.int .i64 x.x] 36)) 36 w.heap.size x.cells:=BoxO.new w #[.int .i64 x.s,.int .i64 x.k,.int .u64 (x.t:Int),.int .u64 (x.v:Int),.int .i64 x.x] 36;generalize hV:w.alloc (.cells #[.int .i64 x.s,.int .i64 x.k,.int .u64 (x.t:Int),.int .u64 (x.v:Int),.int .i64 x.x] 36)=V at *;have b0:=hbx.cell 0;have b1:=hbx.cell 1;have b2:=hbx.cell 2;have b3:=hbx.cell 3;have b4:=hbx.cell 4;simp only[It.cells,gE0,gE1]at b0 b1 b2 b3 b4;have HOK:=Lib.hid hok;have HBF:=Lib.hid hbf;have HW1:=Lib.hid hW1;have HBX:=Lib.hid hbx;have HLT:=Lib.hid hlt;clear hok hbf hbx hW1 hlt;unfold It.val;go_enter Tryz.func170,Tryz.ntmps170;go_wp2_with fail;refine(HOK.out _).mono ?_;rintro e w2 ⟨rfl,hb2⟩;have hbx2:=HBX.out.below hb2;have b0:=hbx2.cell 0;have b1:=hbx2.cell 1;have b2:=hbx2.cell 2;have b3:=hbx2.cell 3;have b4:=hbx2.cell 4;simp only[It.cells,gE0,gE1]at b0 b1 b2 b3 b4;have hW2:=HW1.out.trans (hb2.mono HW1.out.size);have HW2:=Lib.hid hW2;have HBX2:=Lib.hid hbx2;clear hb2 hbx2 hW2 HOK hV HW1 HBX;go_wp2_with fail;refine(HBF.out _ HW2.out).mono ?_;rintro e w3 ⟨J,hJ,rfl,hb3⟩;have hW3:=HW2.out.trans (hb3.mono HW2.out.size);have hbx3:=HBX2.out.below hb3;have hbo:=BoxO.new w3 #[.pointer none,.pointer none,.pointer none,.pointer none,.pointer none,.pointer none] 292;have hW4:=hW3.alloc hW3.size (.cells #[.pointer none,.pointer none,.pointer none,.pointer none,.pointer none,.pointer none] 292);have hbx4:=hbx3.alloc (.cells #[.pointer none,.pointer none,.pointer none,.pointer none,.pointer none,.pointer none] 292);generalize hU:w3.alloc (.cells #[.pointer none,.pointer none,.pointer none,.pointer none,.pointer none,.pointer none] 292)=U at *;have hcc:Chg [w3.heap.size] U ((((((U.setCell ⟨w3.heap.size,0,none⟩ (.pointer (some ⟨bk ns (J 0),0,none⟩))).setCell ⟨w3.heap.size,1,none⟩ (.pointer (some ⟨bk ns (J 1),0,none⟩))).setCell ⟨w3.heap.size,2,none⟩ (.pointer (some ⟨bk ns (J 2),0,none⟩))).setCell ⟨w3.heap.size,3,none⟩ (.pointer (some ⟨bk ns (J 3),0,none⟩))).setCell ⟨w3.heap.size,4,none⟩ (.pointer (some ⟨bk ns (J 4),0,none⟩))).setCell ⟨w3.heap.size,5,none⟩ (.pointer (some ⟨bk ns (J 5),0,none⟩))):=((((((Chg.refl _ U).setCell _ (.inl (by simp))).setCell _ (.inl (by simp))).setCell _ (.inl (by simp))).setCell _ (.inl (by simp))).setCell _ (.inl (by simp))).setCell _ (.inl (by simp));have hbs:=(((((hbo.store 0 (.pointer (some ⟨bk ns (J 0),0,none⟩))).store 1 (.pointer (some ⟨bk ns (J 1),0,none⟩))).store 2 (.pointer (some ⟨bk ns (J 2),0,none⟩))).store 3 (.pointer (some ⟨bk ns (J 3),0,none⟩))).store 4 (.pointer (some ⟨bk ns (J 4),0,none⟩))).store 5 (.pointer (some ⟨bk ns (J 5),0,none⟩));simp only[List.set_cons_zero,List.set_cons_succ]at hbs;have HP:=Lib.hid hbs;have HCC:=Lib.hid hcc;have o0:=hbo.cell 0;have o1:=hbo.cell 1;have o2:=hbo.cell 2;have o3:=hbo.cell 3;have o4:=hbo.cell 4;have o5:=hbo.cell 5;have f0:=hbo.free 0;have f1:=hbo.free 1;have f2:=hbo.free 2;have f3:=hbo.free 3;have f4:=hbo.free 4;have f5:=hbo.free 5;simp only[gE0,gE1]at o0 o1 o2 o3 o4 o5;have hs4:=hs.below hW4;have hg8:∀g∈skF L ns,g∉[w3.heap.size]:=fun g hg=>by have:=HLT.out g hg;have:=hW3.size;simp;omega
 have hsY:=hs4.chg hcc hg8;have hbxY:=hbx4.chg hcc (by have:=hbx3.lt;simp;omega);have hWY:=hW4.trans (hcc.below hW4.size (fun g hg=>by rw[List.mem_singleton.1 hg];exact hW3.size));generalize hY:((((((U.setCell ⟨w3.heap.size,0,none⟩ (.pointer (some ⟨bk ns (J 0),0,none⟩))).setCell ⟨w3.heap.size,1,none⟩ (.pointer (some ⟨bk ns (J 1),0,none⟩))).setCell ⟨w3.heap.size,2,none⟩ (.pointer (some ⟨bk ns (J 2),0,none⟩))).setCell ⟨w3.heap.size,3,none⟩ (.pointer (some ⟨bk ns (J 3),0,none⟩))).setCell ⟨w3.heap.size,4,none⟩ (.pointer (some ⟨bk ns (J 4),0,none⟩))).setCell ⟨w3.heap.size,5,none⟩ (.pointer (some ⟨bk ns (J 5),0,none⟩)))=Y at *;have y0:=hbs.cell 0;simp only[gE0]at y0;obtain⟨n0,hn0,hn0h⟩:=(hJ 0 (by omega)).on;have hql:pos (its ns) x+1≤ns.length:=by
  obtain⟨hd,tl,hns,_⟩:=hs.head;have h1:=qj2 (its ns) x;have h2:(its ns).length+1=ns.length:=by rw[hns];simp[its]
  omega
 have hJ0:=(hJ 0 (by omega)).low hql hs.tall;obtain⟨n5,⟨nl,nf⟩,nc,nc6⟩:=hsY.core.look hn0 hn0h;rw[hJ0]at nl;rw[←xq3 hn0]at n5;have hnc:(0:Int) < (n0.c:Int):=by omega
 have hld:=lj1 n0.tb 0 _ Y nl (by have:=hsY.core.ptr 0 (J 0+1);rwa [hJ0]at this);obtain⟨be,hbe⟩:∃be,be=nxb 0 (ns.drop (pos (its ns) x+1)):=⟨_,rfl⟩;rw[←hbe]at hld;have HLD:=Lib.hid hld;have HBE:=Lib.hid hbe;have HSY:=Lib.hid hsY;have HBXY:=Lib.hid hbxY;have HWY:=Lib.hid hWY;have HG8:=Lib.hid hW3.size;have HBS:=Lib.hid hbs;have HJ:=Lib.hid hJ;clear hld hbe hsY hbxY hWY hbs hs4 hcc HP HCC hW4 hbx4 hbx3 hW3 hb3 hbo hn0 hn0h hJ0 nl nf hg8 hJ HW2 HBX2 HBF;simp only[pv];go_wp2_with fail;refine HLD.out.mono ?_;rintro e w5 ⟨rfl,rfl⟩;go_upto_region 5 with (fail)
 have hbe2:=HBE.out.trans (wx4 hs.tall _);have hil:∀n3,ns[pos (its ns) x+1]?=some n3→∃hp:pos (its ns) x < (its ns).length,(its ns)[pos (its ns) x]=n3.x:=fun n3 h3=>by
  have:=wy2 (ns:=ns) (pos (its ns) x);rw[h3]at this;obtain⟨a,b⟩:=List.getElem?_eq_some_iff.1 this;exact⟨a,b⟩
 have hin:ns[pos (its ns) x+1]?=none→¬pos (its ns) x < (its ns).length:=fun h3 h4=>by
  have:=wy2 (ns:=ns) (pos (its ns) x);rw[h3,List.getElem?_eq_getElem h4]at this
  cases this
 obtain⟨l,hl⟩:∃l,l=its ns:=⟨_,rfl⟩;have hrs:=hs.rises;rw[←hl]at hbe2 hil hin hrs;obtain⟨sm,hsm⟩:∃sm,sm=l.any (fun y=>It.same y x):=⟨_,rfl⟩;obtain⟨o3,ho3⟩:∃o3,o3=ns[pos l x+1]?:=⟨_,rfl⟩;rw[←ho3]at hbe2 hil hin;have HL:=Lib.hid hl;have HO3:=Lib.hid ho3;have HSM:=Lib.hid hsm;have HIL:=Lib.hid hil;have HIN:=Lib.hid hin;have HRS:=Lib.hid hrs;have HS:=Lib.hid hs;subst hbe2;clear hl ho3 hsm hil hin hrs hs HLD hY
 go_cut [43] (fun c wx=>c=.bool sm∧Below w5.heap.size w5 wx)
 case first=>
  cases o3 with
  |none=>
   have hf:sm=false:=HSM.out.trans (yv1 HRS.out x (HIN.out rfl));simp only[Option.map_none];refine wp_region_held_drew (S:=fun w'=>Below w5.heap.size w5 w') rfl (ak (Below.refl _ _)) (fun hSw=>?_);refine wpT (i:=0) (v:=?vpn0) ?hpn0 hSw ?kpn0
   case hpn0=>(intro w hSw;skip;go_simp;try (with_reducible rfl))
   go_simp;refine wpT (i:=1) (v:=?vpn1) ?hpn1 hSw ?kpn1
   case hpn1=>(intro w hSw;skip;go_simp;try (with_reducible rfl))
   go_simp;refine wpT (i:=2) (v:=?vpn2) ?hpn2 hSw ?kpn2
   case hpn2=>(intro w hSw;skip;go_simp;try (with_reducible rfl))
   go_simp;refine wpT0 (i:=3) hSw ?_;go_simp;refine wpT0 (i:=4) hSw ?_;go_simp;refine wpT0 (i:=5) hSw ?_;go_simp;refine wpT0 (i:=6) hSw ?_;go_simp;refine wpT0 (i:=7) hSw ?_;go_simp;refine wpT0 (i:=8) hSw ?_;go_simp;refine wpT (i:=9) (v:=?vpn9) ?hpn9 hSw ?kpn9
   case hpn9=>(intro w hSw;skip;go_simp;try (with_reducible rfl))
   go_simp;refine wpAnyH_done (by kernel_rfl) ?_ _;go_wp2_with fail
   go_meet
   exact⟨by rw[hf],hSw⟩
  |some n3=>
   obtain⟨hp,hx3⟩:=HIL.out n3 rfl;have hss:=fun W=>vw2 n3.x x W;have hat:=ux2 HRS.out x hp;rw[hx3]at hat;simp only[hat,←HSM.out]at hss;have hnd:=HSY.out.core.node n3 (List.mem_of_getElem? (by rw[HL.out]at HO3;exact HO3.out.symm));generalize n3.x=y at *;have hkc:∀w',Below w5.heap.size w5 w'→(w'.cell? ⟨n3.b,0,none⟩=some (.int .i64 y.s)∧w'.cell? ⟨n3.b,1,none⟩=some (.int .i64 y.k)∧w'.cell? ⟨n3.b,2,none⟩=some (.int .u64 (y.t:Int))∧w'.cell? ⟨n3.b,3,none⟩=some (.int .u64 (y.v:Int))∧w'.cell? ⟨n3.b,4,none⟩=some (.int .i64 y.x))∧(w'.cell? ⟨w.heap.size,0,none⟩=some (.int .i64 x.s)∧w'.cell? ⟨w.heap.size,1,none⟩=some (.int .i64 x.k)∧w'.cell? ⟨w.heap.size,2,none⟩=some (.int .u64 (x.t:Int))∧w'.cell? ⟨w.heap.size,3,none⟩=some (.int .u64 (x.v:Int))∧w'.cell? ⟨w.heap.size,4,none⟩=some (.int .i64 x.x)):=fun w' hb=>by
    have e1:=hnd.below hb;have e2:=HBXY.out.below hb;exact⟨⟨e1.cell 0,e1.cell 1,e1.cell 2,e1.cell 3,e1.cell 4⟩,e2.cell 0,e2.cell 1,e2.cell 2,e2.cell 3,e2.cell 4⟩
   unfold It.val at hss;have HSS:=Lib.hid hss;have KC:=Lib.hid hkc;clear hss hkc hnd hat hx3 hp;simp only[Option.map_some];refine wp_region_held_drew (S:=fun w'=>Below w5.heap.size w5 w') rfl (ak (Below.refl _ _)) (fun hSw=>?_);refine wpT (i:=0) (v:=?vps0) ?hps0 hSw ?kps0
   case hps0=>(intro w hSw;(obtain⟨⟨y0,y1,y2,y3,y4⟩,x0,x1,x2,x3,x4⟩:=KC.out w hSw);go_simp;try (with_reducible rfl))
   go_simp;refine wpT (i:=1) (v:=?vps1) ?hps1 hSw ?kps1
   case hps1=>(intro w hSw;(obtain⟨⟨y0,y1,y2,y3,y4⟩,x0,x1,x2,x3,x4⟩:=KC.out w hSw);go_simp;try (with_reducible rfl))
   go_simp;refine wpT (i:=2) (v:=?vps2) ?hps2 hSw ?kps2
   case hps2=>(intro w hSw;(obtain⟨⟨y0,y1,y2,y3,y4⟩,x0,x1,x2,x3,x4⟩:=KC.out w hSw);go_simp;try (with_reducible rfl))
   go_simp;refine wpT (i:=3) (v:=?vps3) ?hps3 hSw ?kps3
   case hps3=>(intro w hSw;(obtain⟨⟨y0,y1,y2,y3,y4⟩,x0,x1,x2,x3,x4⟩:=KC.out w hSw);go_simp;try (with_reducible rfl))
   go_simp;refine wpT (i:=4) (v:=?vps4) ?hps4 hSw ?kps4
   case hps4=>(intro w hSw;(obtain⟨⟨y0,y1,y2,y3,y4⟩,x0,x1,x2,x3,x4⟩:=KC.out w hSw);go_simp;try (with_reducible rfl))
   go_simp;refine wpT (i:=5) (v:=?vps5) ?hps5 hSw ?kps5
   case hps5=>(intro w hSw;(obtain⟨⟨y0,y1,y2,y3,y4⟩,x0,x1,x2,x3,x4⟩:=KC.out w hSw);go_simp;try (with_reducible rfl))
   go_simp;refine wpT (i:=6) (v:=?vps6) ?hps6 hSw ?kps6
   case hps6=>(intro w hSw;(obtain⟨⟨y0,y1,y2,y3,y4⟩,x0,x1,x2,x3,x4⟩:=KC.out w hSw);go_simp;try (with_reducible rfl))
   go_simp;refine wpT (i:=7) (v:=?vps7) ?hps7 hSw ?kps7
   case hps7=>(intro w hSw;(obtain⟨⟨y0,y1,y2,y3,y4⟩,x0,x1,x2,x3,x4⟩:=KC.out w hSw);go_simp;try (with_reducible rfl))
   go_simp;refine wpAnyH_ready (rs:=[8]) (by kernel_rfl) (by simp) ?_;refine AllReadyH.cons rfl (fun K hK=>?_) AllReadyH.nil;go_simp
   with_reducible refine(HSS.out _).mono ?_
   rintro e w6 ⟨rfl,hb6⟩;go_simp;refine hK.out _ _ (hSw.trans (hb6.mono hSw.size)) (fun hSn=>?_);clear hK K hSw;have hSw:=hSn;clear hSn;go_simp;refine wpT (i:=9) (v:=?vps9) ?hps9 hSw ?kps9
   case hps9=>(intro w hSw;(obtain⟨⟨y0,y1,y2,y3,y4⟩,x0,x1,x2,x3,x4⟩:=KC.out w hSw);go_simp;try (with_reducible rfl))
   go_simp;refine wpAnyH_done (by kernel_rfl) ?_ _;go_wp2_with fail
   go_meet
   exact⟨rfl,hSw⟩
 case rest=>
  obtain⟨rfl,hb5⟩:=hcut;have hsc:=HSY.out.below hb5;have hbxc:=HBXY.out.below hb5;have hWc:=HWY.out.trans (hb5.mono HWY.out.size);have b0:=hbxc.cell 0;have b1:=hbxc.cell 1;have b2:=hbxc.cell 2;have b3:=hbxc.cell 3;have b4:=hbxc.cell 4;simp only[It.cells,gE0,gE1]at b0 b1 b2 b3 b4;have hbsc:=HBS.out.below hb5;clear HBE y0 n5 hb5 HSY HBXY HWY HBS
  cases sm with
  |true=>
   obtain⟨n3,rfl⟩:∃n3,o3=some n3:=by
    cases o3 with
    |none=>have:=HSM.out.trans (yv1 HRS.out x (HIN.out rfl));cases this
    |some n3=>exact⟨n3,rfl⟩
   obtain⟨hp,hx3⟩:=HIL.out n3 rfl;have hss:It.same l[pos l x] x=true:=(ux2 HRS.out x hp).trans HSM.out.symm;obtain⟨hbt,hpt⟩:=sx2 HRS.out x hp hss;rw[hx3]at hbt;have hn3:=HO3.out.symm;have hnd:=hsc.core.node n3 (List.mem_of_getElem? hn3);have hww:=fun W=>pz2 x n3.x W;obtain⟨y,hy⟩:∃y,y=n3.x:=⟨_,rfl⟩;rw[←hy]at hww hnd hbt;have hkc:∀w',Below wc.heap.size wc w'→(w'.cell? ⟨n3.b,0,none⟩=some (.int .i64 y.s)∧w'.cell? ⟨n3.b,1,none⟩=some (.int .i64 y.k)∧w'.cell? ⟨n3.b,2,none⟩=some (.int .u64 (y.t:Int))∧w'.cell? ⟨n3.b,3,none⟩=some (.int .u64 (y.v:Int))∧w'.cell? ⟨n3.b,4,none⟩=some (.int .i64 y.x))∧(w'.cell? ⟨w.heap.size,0,none⟩=some (.int .i64 x.s)∧w'.cell? ⟨w.heap.size,1,none⟩=some (.int .i64 x.k)∧w'.cell? ⟨w.heap.size,2,none⟩=some (.int .u64 (x.t:Int))∧w'.cell? ⟨w.heap.size,3,none⟩=some (.int .u64 (x.v:Int))∧w'.cell? ⟨w.heap.size,4,none⟩=some (.int .i64 x.x)):=fun w' hb=>by
    have e1:=hnd.below hb;have e2:=hbxc.below hb;exact⟨⟨e1.cell 0,e1.cell 1,e1.cell 2,e1.cell 3,e1.cell 4⟩,e2.cell 0,e2.cell 1,e2.cell 2,e2.cell 3,e2.cell 4⟩
   unfold It.val at hww;obtain⟨wb,hwb⟩:∃wb,wb=x.wins y:=⟨_,rfl⟩;rw[←hwb]at hww hbt;have HWW:=Lib.hid hww;have KC:=Lib.hid hkc;have HN3:=Lib.hid hn3;have HND:=Lib.hid hnd;have HSC:=Lib.hid hsc;have HBT:=Lib.hid hbt;have HPT:=Lib.hid hpt;have HWC:=Lib.hid hWc;have HBXC:=Lib.hid hbxc;have HY:=Lib.hid hy;clear hww hkc hn3 hnd hsc hbt hpt hWc hbxc hy hbsc hss hx3 hp hwb b0 b1 b2 b3 b4;simp only[Option.map_some];go_upto_region 6 with (fail)
   refine wp_region_held_drew (S:=fun w'=>Below wc.heap.size wc w') rfl (ak (Below.refl _ _)) (fun hSw=>?_);refine wpT (i:=0) (v:=?vpw0) ?hpw0 hSw ?kpw0
   case hpw0=>(intro w hSw;(obtain⟨⟨y0,y1,y2,y3,y4⟩,x0,x1,x2,x3,x4⟩:=KC.out w hSw);go_simp;try (with_reducible rfl))
   go_simp;refine wpT (i:=1) (v:=?vpw1) ?hpw1 hSw ?kpw1
   case hpw1=>(intro w hSw;(obtain⟨⟨y0,y1,y2,y3,y4⟩,x0,x1,x2,x3,x4⟩:=KC.out w hSw);go_simp;try (with_reducible rfl))
   go_simp;refine wpT (i:=2) (v:=?vpw2) ?hpw2 hSw ?kpw2
   case hpw2=>(intro w hSw;(obtain⟨⟨y0,y1,y2,y3,y4⟩,x0,x1,x2,x3,x4⟩:=KC.out w hSw);go_simp;try (with_reducible rfl))
   go_simp;refine wpT (i:=3) (v:=?vpw3) ?hpw3 hSw ?kpw3
   case hpw3=>(intro w hSw;(obtain⟨⟨y0,y1,y2,y3,y4⟩,x0,x1,x2,x3,x4⟩:=KC.out w hSw);go_simp;try (with_reducible rfl))
   go_simp;refine wpT (i:=4) (v:=?vpw4) ?hpw4 hSw ?kpw4
   case hpw4=>(intro w hSw;(obtain⟨⟨y0,y1,y2,y3,y4⟩,x0,x1,x2,x3,x4⟩:=KC.out w hSw);go_simp;try (with_reducible rfl))
   go_simp;refine wpAnyH_ready (rs:=[5]) (by kernel_rfl) (by simp) ?_;refine AllReadyH.cons rfl (fun K hK=>?_) AllReadyH.nil;go_simp
   with_reducible refine(HWW.out _).mono ?_
   rintro e w6 ⟨rfl,hb6⟩;go_simp;refine hK.out _ _ (hSw.trans (hb6.mono hSw.size)) (fun hSn=>?_);clear hK K hSw;have hSw:=hSn;clear hSn;go_simp;refine wpT (i:=6) (v:=?vpw6) ?hpw6 hSw ?kpw6
   case hpw6=>(intro w hSw;(obtain⟨⟨y0,y1,y2,y3,y4⟩,x0,x1,x2,x3,x4⟩:=KC.out w hSw);go_simp;try (with_reducible rfl))
   go_simp;refine wpAnyH_done (by kernel_rfl) ?_ _;have hsv:=hSw;clear hSw KC HWW;obtain⟨X,hXe⟩:∃X,X=w6:=⟨_,rfl⟩;rw[←hXe]at hsv ⊢;clear hXe hb6;have hnd:=HND.out.below hsv;have hsx:=HSC.out.below hsv;have hbx:=HBXC.out.below hsv;have hWx:=HWC.out.trans (hsv.mono HWC.out.size)
   cases wb with
   |false=>
    have hR:wput l x=l:=by unfold wput;rw[if_pos];rw[HBT.out];rfl
    have HF:=Lib.hid (show jw2 w L ns (wput l x) (.returned (.tuple #[.bool false,.int .i64 0])) X from ⟨false,ns,rfl,hsx,by rw[hR];exact HL.out.symm,Chg.of_below hWx _,fun g hg=>.inl hg⟩);clear hR hsx hbx hWx hnd hsv;go_wp2;go_ret2;rw[←HL.out];exact HF.out
   |true=>
    have e0:=hbx.cell 0;have e1:=hbx.cell 1;have e2:=hbx.cell 2;have e3:=hbx.cell 3;have e4:=hbx.cell 4;have d0:=hnd.cell 0;have d1:=hnd.cell 1;have d2:=hnd.cell 2;have d3:=hnd.cell 3;have d4:=hnd.cell 4;have q0:=hnd.free 0;have q1:=hnd.free 1;have q2:=hnd.free 2;have q3:=hnd.free 3;have q4:=hnd.free 4;have hst:=((((hnd.store 0 (.int .i64 x.s)).store 1 (.int .i64 x.k)).store 2 (.int .u64 (x.t:Int))).store 3 (.int .u64 (x.v:Int))).store 4 (.int .i64 x.x);simp only[It.cells,List.cons_append,List.nil_append,gE0,gE1,List.set_cons_zero,List.set_cons_succ]at e0 e1 e2 e3 e4 d0 d1 d2 d3 d4 hst;have hcg:Chg [n3.b] X (((((X.setCell ⟨n3.b,0,none⟩ (.int .i64 x.s)).setCell ⟨n3.b,1,none⟩ (.int .i64 x.k)).setCell ⟨n3.b,2,none⟩ (.int .u64 (x.t:Int))).setCell ⟨n3.b,3,none⟩ (.int .u64 (x.v:Int))).setCell ⟨n3.b,4,none⟩ (.int .i64 x.x)):=(((((Chg.refl _ X).setCell _ (.inl (by simp))).setCell _ (.inl (by simp))).setCell _ (.inl (by simp))).setCell _ (.inl (by simp))).setCell _ (.inl (by simp));have hR:wput l x=l.set (pos l x) x:=by
     unfold wput;rw[if_neg (by rw[HBT.out];simp)];exact HPT.out
    obtain⟨z1,z2,z3⟩:=hsx.setx (x:=x) (k:=pos l x) HN3.out (by rw[←HL.out,←HPT.out];exact ow1 HRS.out) hcg hst;rw[←HL.out,←hR]at z2;have hF:Chg (skF L ns) w _:=(Chg.of_below hWx (skF L ns)).trans hcg (fun g hg=>.inl (by
     rw[List.mem_singleton.1 hg];exact List.mem_cons_of_mem _ (List.mem_flatMap.2 ⟨n3,List.mem_of_getElem? HN3.out,by simp⟩)))
    have HF:=Lib.hid (show jw2 w L ns (wput l x) (.returned (.tuple #[.bool true,.int .i64 0])) _ from ⟨true,_,rfl,z1,z2,hF,fun g hg=>.inl (by rw[z3]at hg;exact hg)⟩);clear hR hsx hbx hWx hnd hsv hst hcg z1 z2 z3 hF;go_wp2;go_ret2;rw[←HL.out];exact HF.out
  |false=>
   obtain⟨hbt,hpt⟩:=fv3 HRS.out x HSM.out.symm;have hql2:pos l x+1≤ns.length:=by rw[HL.out];exact hql
   have ht:=fun W=>rx2 x h W h1 h6;unfold It.val at ht;have HT:=Lib.hid ht;have HSC:=Lib.hid hsc;have HBT:=Lib.hid hbt;have HPT:=Lib.hid hpt;have HWC:=Lib.hid hWc;have HBSC:=Lib.hid hbsc;clear ht hsc hbt hpt hWc hbxc hbsc hql;go_wp2_with fail;refine(HT.out _).mono ?_;rintro e w6 ⟨b,tb,rfl,hb1',ht1,hne,hbs,hts,hb6⟩;obtain⟨A,hA⟩:∃A,A=ns.take (pos l x+1):=⟨_,rfl⟩;obtain⟨R,hR⟩:∃R,R=ns.drop (pos l x+1):=⟨_,rfl⟩;have hAR:A++R=ns:=by rw[hA,hR];exact List.take_append_drop _ _
   have hAl:A.length=pos l x+1:=by rw[hA,List.length_take];omega
   have hlw:=HWC.out.size;have hfr:∀g∈skF L ns,g < w.heap.size:=HLT.out;have hnb:∀g,wc.heap.size≤g→g∉(A++R).flatMap fun n=>[n.b,n.tb]:=fun g hg hm=>by
    rw[hAR]at hm;have:=hfr g (List.mem_cons_of_mem _ hm);omega
   have hc0:SkC w6 (A++(⟨x,b,tb,0,h⟩:Nd)::R):=SkC.insert (n:=⟨x,b,tb,0,h⟩) (by rw[hAR];exact HSC.out.core.below hb6) rfl h6 hb1' ht1 hne (hnb b hbs) (hnb tb hts);have hg8:=(HBSC.out.lt:w3.heap.size < wc.heap.size);have hbs6:=HBSC.out.below hb6;obtain⟨hd,tl,hns,hh6,hLb⟩:=HSC.out.head;have hLb6:=hLb.below hb6;have hW6:=HWC.out.trans (hb6.mono hlw);have hg8w:w.heap.size≤w3.heap.size:=HG8.out;obtain⟨F,hF⟩:∃F,F=tb::ns.flatMap (fun n=>[n.b,n.tb]):=⟨_,rfl⟩;have h8F:w3.heap.size∉F:=by
    rw[hF];intro hm
    rcases List.mem_cons.1 hm with h2|h2
    ·omega
    ·have:=hfr _ (List.mem_cons_of_mem _ h2)
     omega
   have hLF:L∉F:=by
    rw[hF];intro hm
    rcases List.mem_cons.1 hm with h2|h2
    ·have:=hfr L List.mem_cons_self
     omega
    ·exact HSC.out.out h2
   have HC0:=Lib.hid hc0;have HB6:=Lib.hid hbs6;have HAR:=Lib.hid hAR;have HAL:=Lib.hid hAl;have HNS:=Lib.hid (And.intro hns hh6);have HL6:=Lib.hid hLb6;have HW6:=Lib.hid hW6;have HF:=Lib.hid hF;have H8F:=Lib.hid h8F;have HLF:=Lib.hid hLF;have HTS:=Lib.hid (show w.heap.size≤tb∧w.heap.size≤b from ⟨by omega,by omega⟩);have HJ2:=Lib.hid (show ∀k,k < 6→Pred ns k A.length (J k) from fun k hk=>by rw[hAl,HL.out];exact HJ.out k hk);clear hc0 hbs6 hAR hAl hns hh6 hLb6 hLb hW6 hA hR hb6 hlw hfr hnb hg8 hg8w hbs hts ht1 hb1' hne hF h8F hLF HJ HSC HBSC HWC HT;go_wp2_with fail
   go_loopw [60] (fun s wr=>∃k:Nat,k≤h∧s=.int .i64 (k:Int)∧Hid (SkC wr (A++(⟨x,b,tb,k,h⟩:Nd)::R)∧Chg F w6 wr)) (fun s _=>h - (intOf s).toNat)
   case atStart=>exact⟨0,Nat.zero_le _,rfl,Lib.hid ⟨HC0.out,Chg.refl _ _⟩⟩
   case round=>
    obtain⟨k,hk',rfl,HK⟩:=hrel
    by_cases hkh:k < h
    ·have hki:(k:Int) < (h:Int):=by omega
     have hk6:k < 6:=by omega
     have hk6i:(k:Int) < 6:=by omega
     have hwk:IntKind.i64.wrap (k:Int)=(k:Int):=IntWalk.i64_in _ (by omega);obtain⟨p,hp,hph⟩:=(HJ2.out k hk6).on;have hbk:bk ns (J k)=p.b:=xq3 hp;have hpj:(A++(⟨x,b,tb,k,h⟩:Nd)::R)[J k]?=some p:=by
      have h2:=(HJ2.out k hk6).lt;rw[←HAR.out,List.getElem?_append_left h2]at hp;rw[List.getElem?_append_left h2];exact hp
     have hnj:(A++(⟨x,b,tb,k,h⟩:Nd)::R)[A.length]?=some ⟨x,b,tb,k,h⟩:=by simp
     have hsk:=HK.out.1;have hskd:SkC wr.drew (A++(⟨x,b,tb,k,h⟩:Nd)::R):=hsk.chg (F:=[]) (Chg.refl _ wr).drew (fun _ _=>by simp);obtain⟨p5,⟨pl,pf⟩,pc,pc6⟩:=hskd.look hpj hph;have hnb:=hskd.node _ (List.mem_of_getElem? hnj);have n5:=hnb.cell 5;simp only[It.cells,List.cons_append,List.nil_append,gE0,gE1]at n5;obtain⟨cs,t1,t2,_⟩:=hskd.tower _ _ hnj;have tk:=t1.cell k;rw[List.getElem?_eq_getElem (by simp only at t2;omega)]at tk;have tf:=t1.free k;have g8:=(HB6.out.chg HK.out.2 H8F.out).drew;have g8k:wr.drew.cell? ⟨w3.heap.size,k,none⟩=some (.pointer (some ⟨p.b,0,none⟩)):=by
      rw[g8.cell,qk4 (fun l=>Value.pointer (some ⟨bk ns (J l),0,none⟩)) hk6,hbk]
     have hap:=nv1 _ _ _ _ _ hskd.apart hpj hnj;have hpt:p.tb≠tb:=fun e=>by
      have:=hap.2.1 e;have:=(HJ2.out k hk6).lt;omega
     have hr:=hskd.raise (l:=k) rfl hkh ((HAR.out▸HJ2.out k hk6:Pred (A++R) k A.length (J k)).insert rfl) hpj;have hld:=lj1 p.tb k _ wr.drew pl (hskd.ptr k _);generalize hv:(nxb k ((A++(⟨x,b,tb,k,h⟩:Nd)::R).drop (J k+1))).map (fun b=>(⟨b,0,none⟩:Addr))=v at *;have hnv:mw3 wr.drew v:=by rw[←hv];exact hskd.ptr k _
     have hs1:=xx1 tb k _ v wr.drew tk tf hnv;have hc1:=pz wr.drew ⟨tb,k,none⟩ (.pointer v);have htb8:w3.heap.size∉[tb]:=fun e=>H8F.out (by rw[List.mem_singleton.1 e,HF.out];simp);have g8k2:(wr.drew.setCell ⟨tb,k,none⟩ (.pointer v)).cell? ⟨w3.heap.size,k,none⟩=some (.pointer (some ⟨p.b,0,none⟩)):=by
      rw[(g8.chg hc1 htb8).cell,qk4 (fun l=>Value.pointer (some ⟨bk ns (J l),0,none⟩)) hk6,hbk]
     have hpn:p.b∉[tb]:=fun e=>hap.2.2 (List.mem_singleton.1 e);have p52:=((hskd.node p (List.mem_of_getElem? hpj)).chg hc1 hpn).cell 5;simp only[It.cells,List.cons_append,List.nil_append,gE0,gE1]at p52;obtain⟨cp,u1,u2,_⟩:=hskd.tower _ _ hpj;have u3:=u1.chg hc1 (fun e=>hpt (List.mem_singleton.1 e));have uk:=u3.cell k;rw[List.getElem?_eq_getElem (by omega)]at uk;have uf:=u3.free k;have hbn:b∉[tb]:=fun e=>(nv1 _ _ _ _ _ hskd.apart hnj hnj).2.2 (List.mem_singleton.1 e);have hs2:=xx1 p.tb k _ (some ⟨b,0,none⟩) _ uk uf ⟨b,_,rfl,hnb.chg hc1 hbn,rfl⟩;have hpc:(k:Int) < (p.c:Int):=by omega
     have hcF:Chg F w6 ((wr.drew.setCell ⟨tb,k,none⟩ (.pointer v)).setCell ⟨p.tb,k,none⟩ (.pointer (some ⟨b,0,none⟩))):=(HK.out.2.drew.setCell _ (.inl (by rw[HF.out];simp))).setCell _ (.inl (by rw[HF.out];exact List.mem_cons_of_mem _ (List.mem_flatMap.2 ⟨p,List.mem_of_getElem? hp,by simp⟩)));have HLD:=Lib.hid hld;have HS1:=Lib.hid hs1;have HS2:=Lib.hid hs2;have HR2:=Lib.hid (And.intro hr hcF);have q5:wr.cell? ⟨b,5,none⟩=_:=n5;have g8k3:(wr.setCell ⟨tb,k,none⟩ (.pointer v)).cell? ⟨w3.heap.size,k,none⟩=_:=g8k2;have p53:(wr.setCell ⟨tb,k,none⟩ (.pointer v)).cell? ⟨p.b,5,none⟩=_:=p52;have q8:wr.cell? ⟨w3.heap.size,k,none⟩=_:=g8k;have qp:wr.cell? ⟨p.b,5,none⟩=_:=p5;clear hld hs1 hs2 hr hcF hsk hskd hnb t1 t2 tk tf g8 hap hpt hnv hc1 htb8 hpn u1 u2 u3 uk uf hbn pl pf pc6 hv HK hpj hnj hp hbk;go_wp2_with fail
     go_region_with (first
      |(go_at_call 239;refine HLD.out.mono ?_;rintro e w7 ⟨rfl,rfl⟩)
      |(go_at_call 240;refine HS1.out.mono ?_;rintro e w8 ⟨rfl,rfl⟩))
     all_goals
      go_wp2_with fail;refine HS2.out.mono ?_;rintro e w9 ⟨rfl,rfl⟩;go_wp2;go_roundw
      case rel=>exact⟨k+1,by omega,by go_num,Lib.hid HR2.out⟩
      case measure=>simp[intOf];omega
    ·have hkk:k=h:=by omega
     subst hkk;have hki:((k:Int) < (k:Int))=False:=eq_false (by omega);have hcx:=HK.out.2;have hl1:=HL6.out.chg hcx HLF.out;have g0:=hl1.cell 0;have g1:=hl1.cell 1;have z0:=hl1.free 1;simp only[gE0,gE1]at g0 g1;have htl:tl.length < 1000000:=by have:=HNS.out.1;rw[this,List.length_cons]at hnl;omega
     have hwt:IntKind.i64.wrap ((tl.length:Int)+1)=((tl.length+1:Nat):Int):=by rw[IntWalk.i64_in _ (by omega)];omega
     have hst:=hl1.store 1 (.int .i64 ((tl.length+1:Nat):Int));have hcl:=pz wr ⟨L,1,none⟩ (.int .i64 ((tl.length+1:Nat):Int));simp only[List.set_cons_zero,List.set_cons_succ]at hst hcl;have hLn:∀g∈(A++(⟨x,b,tb,k,k⟩:Nd)::R).flatMap (fun n=>[n.b,n.tb]),g∈ns.flatMap (fun n=>[n.b,n.tb])∨g=b∨g=tb:=fun g hg=>by
      rw[←HAR.out];obtain⟨m,hm,hg⟩:=List.mem_flatMap.1 hg
      rcases List.mem_append.1 hm with h2|h2
      ·exact .inl (List.mem_flatMap.2 ⟨m,List.mem_append_left _ h2,hg⟩)
      ·rcases List.mem_cons.1 h2 with rfl|h2
       ·right;simpa using hg
       ·exact .inl (List.mem_flatMap.2 ⟨m,List.mem_append_right _ h2,hg⟩)
     have hLo:L∉(A++(⟨x,b,tb,k,k⟩:Nd)::R).flatMap (fun n=>[n.b,n.tb]):=fun hm=>by
      have h3:=HLT.out L List.mem_cons_self;have h4:=HTS.out
      rcases hLn L hm with h2|h2|h2
      ·exact HS.out.out h2
      ·omega
      ·omega
     have hcr:=HK.out.1.chg hcl (fun g hg e=>hLo (by rw[←List.mem_singleton.1 e];exact hg));have hA0:A=hd::tl.take (pos l x):=by
      have h2:=HAL.out;have h3:=HAR.out;rw[HNS.out.1]at h3
      cases A with
      |nil=>simp at h2
      |cons a A=>
       simp only[List.cons_append,List.cons.injEq]at h3;simp only[List.length_cons,Nat.add_right_cancel_iff]at h2;rw[←h3.2,←h2,List.take_left,h3.1]
     have hits:its (A++(⟨x,b,tb,k,k⟩:Nd)::R)=put l x:=by
      rw[nq3 (by rw[HAL.out];omega),HAR.out,HAL.out,←HL.out,HPT.out];rfl
     have hat:SkAt (wr.setCell ⟨L,1,none⟩ (.int .i64 ((tl.length+1:Nat):Int))) L (A++(⟨x,b,tb,k,k⟩:Nd)::R):=by
      refine⟨hcr,⟨hd,tl.take (pos l x)++(⟨x,b,tb,k,k⟩:Nd)::R,by rw[hA0];rfl,HNS.out.2,?_⟩,hLo,fun m hm=>?_,by rw[hits];exact ow1 HRS.out⟩
      ·have h2:(tl.take (pos l x)++(⟨x,b,tb,k,k⟩:Nd)::R).length=tl.length+1:=by
        have h3:=congrArg List.length HAR.out;rw[hA0,HNS.out.1]at h3;simp only[List.length_append,List.length_cons,List.cons_append]at h3 ⊢;omega
       rw[h2];exact hst
      ·rcases List.mem_append.1 hm with h2|h2
       ·exact HS.out.tall m (by rw[←HAR.out];exact List.mem_append_left _ h2)
       ·rcases List.mem_cons.1 h2 with rfl|h2
        ·exact h1
        ·exact HS.out.tall m (by rw[←HAR.out];exact List.mem_append_right _ h2)
     have hR:wput l x=put l x:=by unfold wput;rw[if_neg (by rw[HBT.out];simp)]
     have hcz:Chg (skF L ns) w (wr.setCell ⟨L,1,none⟩ (.int .i64 ((tl.length+1:Nat):Int))):=by
      refine((Chg.of_below HW6.out (skF L ns)).trans hcx (fun g hg=>?_)).trans hcl (fun g hg=>.inl (by rw[List.mem_singleton.1 hg];exact List.mem_cons_self));rw[HF.out]at hg
      rcases List.mem_cons.1 hg with rfl|hg
      ·exact .inr HTS.out.1
      ·exact .inl (List.mem_cons_of_mem _ hg)
     have HFI:=Lib.hid (show jw2 w L ns (wput l x) (.returned (.tuple #[.bool true,.int .i64 0])) (wr.setCell ⟨L,1,none⟩ (.int .i64 ((tl.length+1:Nat):Int))) from ⟨true,_,rfl,hat,by rw[hR];exact hits,hcz,fun g hg=>by
      rcases List.mem_cons.1 hg with rfl|hg
      ·exact .inl List.mem_cons_self
      ·rcases hLn g hg with h2|h2|h2
       ·exact .inl (List.mem_cons_of_mem _ h2)
       ·exact .inr (by rw[h2];exact HTS.out.2)
       ·exact .inr (by rw[h2];exact HTS.out.1)⟩)
     clear hst hcl hLn hLo hcr hA0 hits hat hR hcz hl1 hcx;go_wp2;go_ret2;rw[←HL.out];exact HFI.out
end
end Go.Proofs.YthjdpplgfdihoaaGreatDoor
