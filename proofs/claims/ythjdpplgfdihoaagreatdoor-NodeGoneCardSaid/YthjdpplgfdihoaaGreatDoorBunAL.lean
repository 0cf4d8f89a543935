/- Texts StateC, StateD, StateE, StateF, StateG in one. No conditions. -/
import Derived.Test.YthjdpplgfdihoaaGreatDoorBunAI
import Derived.Test.YthjdpplgfdihoaaGreatDoorBunAJ
import Derived.Shelf.Spec.SlicesInsert

set_option linter.unusedSimpArgs false
set_option linter.unusedVariables false
set_option maxRecDepth 100000
set_option maxHeartbeats 16000000
namespace Go.Proofs.YthjdpplgfdihoaaGreatDoor
section
open Go Go.RowKit Go.Lib
theorem rq:(Tryz.prog.info? 36).map (fun i=>(i.zero,i.size,i.bytes))=some (some (.agg #[.int .i64 0,.int .i64 0,.int .u64 0,.int .u64 0,.int .i64 0]),5,40):=by kernel_rfl
theorem nx1 (w:World) (ty:TypeId) (b o dLen dCap:Nat) (a:Addr) (sLen sCap:Nat) (cs:List Value) (hn:cs.length=Nat.min sLen dLen *5)
  (hsrc:∀j v,cs[j]?=some v→w.cell? (a.add j)=some v) (hc:∀j,j < cs.length→(w.cell? ⟨b,o+j,none⟩).isSome=true) (hf:∀j,j < cs.length→w.frozen? ⟨b,o+j,none⟩=false) (h1:∀v∈cs,v.oneCell'=true):
  (Builtin.copy_ #[31,31] ty #[.slice (some ⟨b,o,none⟩) dLen dCap,.slice (some a) sLen sCap]).run Tryz.prog w=.ok (goInt (Nat.min sLen dLen)) (w.setCells b o cs):=by
 have hl:=run_loadCells_list (P:=Tryz.prog) w a cs hsrc;have hst:=run_storeCells_cells (P:=Tryz.prog) b o cs 0 w (by simpa using hc) (by simpa using hf) h1;obtain⟨i0,hi0,hz0,hz1,hz2⟩:=info_parts rq;simp[Builtin.copy_,run_underlying Tryz.underlying31,Builtin.lenOf,Builtin.firstCells,sizeOf,typeInfo,hi0,hz1,←hn,hl,hst]
def zj4 (base n:Nat) (L:List It) (F:List Nat) (w:World) (e:Ending) (w':World):Prop:=∃A' c',e=.returned (.slice A' (n+1) c')∧w'.ownsRow base 36 5 (.slice A' (n+1) c') (n+1) (itc L)∧Chg F w w'∧∀g,F=[g]→(Value.slice A' (n+1) c').ownBlock=some g
theorem ax3 (base g n cap i:Nat) (l:List It) (x:It) (vb:Nat) (w:World) (ho:w.ownsRow base 36 5 (.slice (some ⟨g,0,none⟩) n cap) n (itc l)) (hi:i < n) (hroom:n+1≤cap) (hv:BoxO w 36 vb x.cells) (hvg:vb≠g):
  Calls Tryz.prog 244 #[.slice (some ⟨g,0,none⟩) n cap,.int .i64 (i:Int),.slice (some ⟨vb,0,none⟩) 1 1] w (zj4 base n (l.take i++x::l.drop i) [g] w):=by
 have hxl:=ho.1;rw[iw]at hxl;have hln:l.length=n:=by omega
 rcases ho.2 with ⟨_,h0⟩|⟨g',cap',cur,hvv,hbg,hheap,hn,hcm,hcs,htk⟩
 ·omega
 injection hvv with hv1 hv2 hv3;injection hv1 with hv1;injection hv1 with hv1;subst hv1 hv3;clear hv2;have hB:BoxO w 36 g cur.toList:=by unfold BoxO;simpa using hheap
 have hcl:cur.toList.length=cap *5:=by simpa using hcs
 obtain⟨D,hD⟩:=n_ (itc (l.drop i));have hDl:D.length=(n - i)*5:=by rw[hD,iw,B_,hln]
 have hD1:∀v∈D,v.oneCell'=true:=by rw[hD];exact xq _
 have hgetc:∀j v,D[j]?=some v→w.drew.cell? ⟨g,i *5+j,none⟩=some v:=fun j v hj=>by
  have hjl:j < (n - i)*5:=by have:=(G_.1 hj).1;omega
  rw[show w.drew.cell? ⟨g,i *5+j,none⟩=w.cell? ⟨g,i *5+j,none⟩ from rfl,hB.cell,←hj,hD,kw1,an_,←htk,aI_,if_pos (by omega)]
 have hsome:∀k,k < cap *5→(w.drew.cell? ⟨g,k,none⟩).isSome=true:=fun k hk=>by
  rw[show w.drew.cell? ⟨g,k,none⟩=w.cell? ⟨g,k,none⟩ from rfl,hB.cell,j_ (by omega)];rfl
 have hcp1:∀ty dc sc,(Builtin.copy_ #[31,31] ty #[.slice (some ⟨g,(i+1)*5,none⟩) (n - i) dc,.slice (some ⟨g,i *5,none⟩) (n+1 - i) sc]).run Tryz.prog w.drew=.ok (goInt ((n - i:Nat):Int)) (w.drew.setCells g ((i+1)*5) D):=fun ty dc sc=>by
  have hm:Nat.min (n+1 - i) (n - i)=n - i:=by simp only[Nat.min_def];split<;>omega
  have:=nx1 w.drew ty g ((i+1)*5) (n - i) dc ⟨g,i *5,none⟩ (n+1 - i) sc D (by rw[hm,hDl]) (fun j v hj=>by rw[Addr.add_lit];exact hgetc j v hj) (fun j hj=>hsome _ (by omega)) (fun j hj=>hB.drew.free _) hD1
  rwa [hm]at this
 obtain⟨W1,hW1⟩:=n_ (w.drew.setCells g ((i+1)*5) D);have hB1:BoxO W1 36 g (cur.toList.take ((i+1)*5)++(D++cur.toList.drop ((i+1)*5+D.length))):=by
  rw[hW1];exact BoxO.stores D _ w.drew _ hB.drew (by omega)
 have hC1:Chg [g] w W1:=by
  rw[hW1];exact xw g D _ w _ (Chg.refl _ _).drew
 have hv1:BoxO W1 36 vb x.cells:=hv.chg hC1 (by simpa using hvg);rw[←hW1]at hcp1;have hcp2:∀ty dc,(Builtin.copy_ #[31,31] ty #[.slice (some ⟨g,i *5,none⟩) (n+1 - i) dc,.slice (some ⟨vb,0,none⟩) 1 1]).run Tryz.prog W1=.ok (goInt 1) (W1.setCells g (i *5) x.cells):=fun ty dc=>by
  have hm:Nat.min 1 (n+1 - i)=1:=by simp only[Nat.min_def];split<;>omega
  have:=nx1 W1 ty g (i *5) (n+1 - i) dc ⟨vb,0,none⟩ 1 1 x.cells (by rw[hm];rfl) (fun j v hj=>by rw[Addr.add_lit,ag_,hv1.cell];exact hj)
   (fun j hj=>by rw[hB1.cell,j_ (by rw[It.bz]at hj;simp only[e_,u_,B_];omega)];rfl) (fun j hj=>hB1.free _) (fun v hv=>xq [x] v (by simpa [itc] using hv))
  rwa [hm]at this
 obtain⟨W2,hW2⟩:=n_ (W1.setCells g (i *5) x.cells);have hB2:=BoxO.stores x.cells (i *5) W1 _ hB1 (by simp only[e_,u_,B_,It.bz];omega);have hC2:=xw g x.cells (i *5) w _ hC1;rw[←hW2]at hB2 hC2;simp only[←hW2]at hcp2;have hfin:W2.ownsRow base 36 5 (.slice (some ⟨g,0,none⟩) (n+1) cap) (n+1) (itc (l.take i++x::l.drop i)):=by
  refine⟨by rw[iw,e_,r_,u_,B_];omega,.inr ⟨g,cap,_,rfl,hbg,hB2,by omega,hcm,?_,?_⟩⟩
  ·simp only[aj_,e_,u_,B_,It.bz]
   omega
  ·have e1:itc (l.take i++x::l.drop i)=cur.toList.take (i *5)++(x.cells++D):=by
    rw[qw,bz1,←htk,aE_,aH_ (by omega),hD];rfl
   rw[e1];have t1:(cur.toList.take ((i+1)*5)++(D++cur.toList.drop ((i+1)*5+D.length))).take (i *5)=cur.toList.take (i *5):=by
    rw[Q_ (by rw[u_];omega),aE_,aH_ (by omega)]
   have t2:(cur.toList.take ((i+1)*5)++(D++cur.toList.drop ((i+1)*5+D.length))).drop (i *5+x.cells.length)=D++cur.toList.drop ((i+1)*5+D.length):=by
    rw[It.bz,show i *5+5=(i+1)*5 by omega,ae_ (by rw[u_];omega),List.drop_take,bF_,List.take_zero,y_]
   rw[t1,t2,a6_,←D_,←D_,Q_ (by simp only[e_,u_,It.bz];omega),i_ (by simp only[e_,u_,It.bz];omega),D_]
 have hsB:w.shape? g=some (36,cap *5):=by unfold World.shape?;rw[hheap];simp[hcs]
 have hsV:w.shape? vb=some (36,5):=by unfold World.shape?;rw[show w.heap[vb]?=_ from hv];rfl
 have hov:∀lb cb,(callFunc 304 #[.slice (some ⟨vb,0,none⟩) 1 1,.slice (some ⟨g,(i+1)*5,none⟩) lb cb]).run Tryz.prog w=.ok (.value (.bool false)) w:=fun lb cb=>by
  rw[run_callFunc_extern Tryz.func304 (by kernel_rfl) (by kernel_rfl) (by kernel_rfl) (e:=Extern.SlicesOverlaps.overlaps #[31,31] #[4]) (by kernel_rfl),
   Lib.run_overlaps_apart w 31 4 36 Tryz.underlying31 5 Tryz.sizeOf36 ⟨vb,0,none⟩ ⟨g,(i+1)*5,none⟩ 1 1 lb cb hvg 36 36 5 (cap *5) hsV hsB (by omega) (hv.free _) (hv.free _)]
  rfl
 have HFIN:=H_ (d_ hfin (d_ hC2 (fun g' (h:[g]=[g'])=>show (Value.slice (some (⟨g,0,none⟩:Addr)) (n+1) cap).ownBlock=some g' by injection h with h;rw[←h];rfl)));have hw1:IntKind.i64.wrap ((i:Int)+1)=(i:Int)+1:=by rw[IntKind.wrap_i64];unfold maxLen at hcm;omega
 have hb1:(0:Int)≤(i:Int)+1:=by omega
 have hin:i≤n:=by omega
 have htn:((i:Int)+1).toNat=i+1:=by omega
 have hz2:¬((i:Int)=(n:Int)):=by omega
 have hb2:¬(cap=i+1):=by omega
 have hb3:(i:Int)≤(n:Int)+1:=by omega
 have hb4:¬(cap=i):=by omega
 unfold maxLen at hcm;clear ho hheap hB hcl hgetc hD hDl hD1 hsome hB1 hC1 hv1 hB2 hC2 hfin htk hcs hxl hv hW1 hW2 hsB hsV;go_enter Tryz.func244,Tryz.ntmps244;go_wp2_with (simp only[hov])
 go_region_law (refine step_copy_runI rfl _ _ 31 31 rfl (.slice (some ⟨g,(i+1)*5,none⟩) (n - i) (cap - (i+1))) (.slice (some ⟨g,i *5,none⟩) (n+1 - i) (cap - i)) (by simp[Act.eval,Act.put]) (by simp[Act.eval,Act.put]) (hcp1 _ _ _) ?_)
 go_wp2_with (at_builtin;refine wpList_copy_runI _ rfl _ _ 31 31 rfl _ _ rfl rfl (hcp2 _ _) ?_);go_ret;exact⟨_,_,rfl,HFIN.out⟩
theorem rx3 (base:Nat) (A:Option Addr) (n cap:Nat) (l:List It) (x:It) (vb:Nat) (w:World) (hn:n≤1000000) (hbase:base≤w.heap.size) (ho:w.ownsRow base 36 5 (.slice A n cap) n (itc l)) (hv:BoxO w 36 vb x.cells):
  Calls Tryz.prog 244 #[.slice A n cap,.int .i64 (n:Int),.slice (some ⟨vb,0,none⟩) 1 1] w fun e w'=>∃A' c',e=.returned (.slice A' (n+1) c')∧w'.ownsRow base 36 5 (.slice A' (n+1) c') (n+1) (itc (l++[x]))∧Chg (Value.slice A n cap).ownBlock.toList w w'∧((Value.slice A' (n+1) c').ownBlock=(Value.slice A n cap).ownBlock∨(Value.slice A' (n+1) c').ownBlock=some w.heap.size):=by
 obtain⟨i0,hi0,hz0,hz1,hz2⟩:=info_parts rq;obtain⟨A1,c1,hv0,hnc,hcm,_⟩:=dw ho;injection hv0 with e1 e2 e3;subst e1 e3;clear e2;have hrow:Row w.heap.size w (some ⟨vb,0,none⟩) 1 5 x.cells:=⟨rfl,fun j hj=>⟨_,rfl,hv.lt,by
  rw[show ((⟨vb,0,none⟩:Addr).add j)=⟨vb,j,none⟩ by rw[Addr.add_lit,ag_],hv.cell];exact j_ hj⟩⟩
 have hlx:itc l++x.cells=itc (l++[x]):=by rw[qw];simp[itc]
 have h1c:∀u∈x.cells,u.oneCell'=true:=fun v hv=>xq [x] v (by simpa [itc] using hv);have HR:=H_ hrow;have HO:=H_ ho;have HLX:=H_ hlx;have H1:=H_ h1c;unfold maxLen at hcm;clear ho hv hrow hlx h1c
 rcases Nat.eq_or_lt_of_le hnc with hq|hq
 ·subst hq
  go_enter Tryz.func244,Tryz.ntmps244;go_wp2_with (at_builtin;refine iy ?_);refine gz (aw1 rfl (.tmp 23) (.tmp 24) _ rfl base 36 i0 _ 5 40 Tryz.underlying31 hi0 hz0 hz1 hz2 rfl (by omega) w b0_ hbase _ n (itc l) rfl HO.out w.heap.size _ 1 1 (by omega) x.cells rfl HR.out H1.out (n+1) (itc (l++[x])) rfl HLX.out (by unfold maxLen;omega) (by omega) ?_);intro A' c' w' h1 h2 h3 h4 h5 h6;have H6:=H_ (d_ (Chg.pz (F:=(Value.slice A n n).ownBlock.toList) h3 (fun b hb=>by have hb2:(Value.slice A n n).ownBlock=some b:=hb;rw[hb2];simp)) h6);clear h6;go_wp2;go_ret;exact⟨_,_,rfl,h1,H6.out⟩
 ·have hq2:¬cap=n:=by omega
  go_enter Tryz.func244,Tryz.ntmps244;go_wp2_with (at_builtin;refine iy ?_);refine gz (aw1 rfl (.tmp 23) (.tmp 24) _ rfl base 36 i0 _ 5 40 Tryz.underlying31 hi0 hz0 hz1 hz2 rfl (by omega) w b0_ hbase _ n (itc l) rfl HO.out w.heap.size _ 1 1 (by omega) x.cells rfl HR.out H1.out (n+1) (itc (l++[x])) rfl HLX.out (by unfold maxLen;omega) (by omega) ?_);intro A' c' w' h1 h2 h3 h4 h5 h6;have H6:=H_ (d_ (Chg.pz (F:=(Value.slice A n cap).ownBlock.toList) h3 (fun b hb=>by have hb2:(Value.slice A n cap).ownBlock=some b:=hb;rw[hb2];simp)) h6);clear h6;go_wp2;go_ret;exact⟨_,_,rfl,h1,H6.out⟩
theorem zx2 (base g n i:Nat) (l:List It) (x:It) (vb:Nat) (w:World) (hsm:n≤1000000) (hbase:base≤w.heap.size) (ho:w.ownsRow base 36 5 (.slice (some ⟨g,0,none⟩) n n) n (itc l)) (hi:i < n) (hv:BoxO w 36 vb x.cells):
  Calls Tryz.prog 244 #[.slice (some ⟨g,0,none⟩) n n,.int .i64 (i:Int),.slice (some ⟨vb,0,none⟩) 1 1] w fun e w'=>∃A' c',e=.returned (.slice A' (n+1) c')∧w'.ownsRow base 36 5 (.slice A' (n+1) c') (n+1) (itc (l.take i++x::l.drop i))∧Below w.heap.size w w'∧(Value.slice A' (n+1) c').ownBlock=some w.heap.size:=by
 obtain⟨i0,hi0,hz0,hz1,hz2⟩:=info_parts rq;have hxl:=ho.1;rw[iw]at hxl;have hln:l.length=n:=by omega
 have hr:=Row.own ho;obtain⟨a0,hae,hgw⟩:=hr.some_ (by rw[iw];omega);injection hae with hae;subst hae;have hcell:∀j v,(itc l)[j]?=some v→w.cell? ⟨g,j,none⟩=some v:=fun j v hj=>by
  have:=hr.cells j v hj
  rwa [Addr.add_lit,ag_]at this
 obtain⟨N,hN⟩:=n_ w.heap.size;obtain⟨G,hG⟩:=n_ (grownCap w (n+1) n 36);have hGn:n+1≤G:=by rw[hG];exact grownCap_ge w _ _ _
 have hG63:G≤maxLen:=by rw[hG];exact grownCap_le_maxLen w (n+1) n 36 (by unfold maxLen;omega)
 have hol:((itc l).take (i *5)).length=i *5:=by rw[u_,iw];omega
 have hold:(Builtin.firstCells i0.size i (.slice (some ⟨g,0,none⟩) i n)).run Tryz.prog w.drew=.ok ((itc l).take (i *5)).toArray w.drew:=by
  rw[hz1];exact run_firstCells_some (P:=Tryz.prog) (w:=w.drew) 5 i ⟨g,0,none⟩ i n _ hol (fun j v hj=>by
   rw[Addr.add_lit,ag_];rw[aI_]at hj;split at hj
   ·exact hcell j v hj
   ·cases hj)
 obtain⟨ROW,hROW⟩:∃ROW:Array Value,ROW=((itc l).take (i *5)).toArray++Builtin.zeroCells (Value.agg #[.int .i64 0,.int .i64 0,.int .u64 0,.int .u64 0,.int .i64 0]).cells (n+1 - i)++Builtin.zeroCells (Value.agg #[.int .i64 0,.int .i64 0,.int .u64 0,.int .u64 0,.int .i64 0]).cells (G - (n+1)):=⟨_,rfl⟩;have hik:i+(n+1 - i)=n+1:=by omega
 have hrz:∀ty,(Builtin.append_ #[31,3] ty #[.slice (some ⟨g,0,none⟩) i n,.int .i64 ((n:Int)+1 - (i:Int))]).run Tryz.prog w=.ok (.slice (some ⟨N,0,none⟩) (n+1) G) (w.drew.alloc (.cells ROW 36)):=fun ty=>by
  have h:=Lib.run_append_grow_zeros w 31 3 ty 36 i0 _ .i64 .i64 Tryz.underlying31 Tryz.underlying3 hi0 hz0 (some ⟨g,0,none⟩) i n _ hold (n+1 - i) (by omega) (by omega) (by omega) (by omega) (by rw[hz2];omega) (by rw[hz2,hik];exact growslice_fits (by omega) (by omega));rw[hik,←hG,←hN,←hROW]at h;rw[show (n:Int)+1 - (i:Int)=((n+1 - i:Nat):Int) by omega];exact h
 have hzs:∀k,(Builtin.zeroCells (Value.agg #[.int .i64 0,.int .i64 0,.int .u64 0,.int .u64 0,.int .i64 0]).cells k).size=k *5:=fun k=>by simp[Builtin.zeroCells,Value.cells]
 have hRs:ROW.size=G *5:=by
  rw[hROW,bO_,bO_,hzs,hzs,aj_,hol];omega
 have hRt:ROW.toList.take (i *5)=(itc l).take (i *5):=by
  rw[hROW,Array.toList_append,Array.toList_append,D_,a6_,Q_ (by omega),i_ (by omega)]
 obtain⟨D,hD⟩:=n_ (itc (l.drop i));have hDl:D.length=(n - i)*5:=by rw[hD,iw,B_,hln]
 have hD1:∀v∈D,v.oneCell'=true:=by rw[hD];exact xq _
 have hDc:∀j v,D[j]?=some v→w.cell? ⟨g,i *5+j,none⟩=some v:=fun j v hj=>by
  refine hcell _ _ ?_
  rwa [hD,kw1,an_]at hj
 obtain⟨W1,hW1⟩:=n_ (w.drew.alloc (.cells ROW 36));have hB1:BoxO W1 36 N ROW.toList:=by rw[hW1,hN];exact BoxO.new w.drew ROW 36
 have hb1:Below w.heap.size w W1:=by rw[hW1];exact(ak (Below.refl w.heap.size w)).alloc l_ _
 have hv1:BoxO W1 36 vb x.cells:=hv.below hb1;have hRl:ROW.toList.length=G *5:=by simpa using hRs
 have hC1:Chg [N] w W1:=Chg.of_below hb1 [N];rw[←hW1]at hrz;have hcpA:∀ty dc,(Builtin.copy_ #[31,31] ty #[.slice (some ⟨N,i *5,none⟩) (n+1 - i) dc,.slice (some ⟨vb,0,none⟩) 1 1]).run Tryz.prog W1=.ok (goInt 1) (W1.setCells N (i *5) x.cells):=fun ty dc=>by
  have hm:Nat.min 1 (n+1 - i)=1:=by simp only[Nat.min_def];split<;>omega
  have:=nx1 W1 ty N (i *5) (n+1 - i) dc ⟨vb,0,none⟩ 1 1 x.cells (by rw[hm];rfl) (fun j v hj=>by rw[Addr.add_lit,ag_,hv1.cell];exact hj)
   (fun j hj=>by rw[hB1.cell,j_ (by rw[It.bz]at hj;omega)];rfl) (fun j hj=>hB1.free _) (fun v hv=>xq [x] v (by simpa [itc] using hv))
  rwa [hm]at this
 obtain⟨W2,hW2⟩:=n_ (W1.setCells N (i *5) x.cells);have hB2:=BoxO.stores x.cells (i *5) W1 _ hB1 (by rw[It.bz];omega);have hC2:=xw N x.cells (i *5) w _ hC1;rw[←hW2]at hB2 hC2;simp only[←hW2]at hcpA;rw[hRt,It.bz]at hB2;have hb2:Below w.heap.size w W2:=hC2.below l_ (by simp[hN]);have hcpB:∀ty dc sc,(Builtin.copy_ #[31,31] ty #[.slice (some ⟨N,(i+1)*5,none⟩) (n - i) dc,.slice (some ⟨g,i *5,none⟩) (n - i) sc]).run Tryz.prog W2.drew=.ok (goInt ((n - i:Nat):Int)) (W2.drew.setCells N ((i+1)*5) D):=fun ty dc sc=>by
  have hm:Nat.min (n - i) (n - i)=n - i:=Nat.min_self _;have:=nx1 W2.drew ty N ((i+1)*5) (n - i) dc ⟨g,i *5,none⟩ (n - i) sc D (by rw[hm,hDl]) (fun j v hj=>by
    rw[Addr.add_lit];exact(hb2.cell (p:=⟨g,i *5+j,none⟩) hgw).trans (hDc j v hj))
   (fun j hj=>by
    rw[show W2.drew.cell? ⟨N,(i+1)*5+j,none⟩=W2.cell? ⟨N,(i+1)*5+j,none⟩ from rfl,hB2.cell,j_ (by simp only[e_,u_,B_,It.bz,iw];omega)];rfl)
   (fun j hj=>hB2.drew.free _) hD1
  rwa [hm]at this
 obtain⟨W3,hW3⟩:=n_ (W2.drew.setCells N ((i+1)*5) D);have hB3:=BoxO.stores D ((i+1)*5) W2.drew _ hB2.drew (by simp only[e_,u_,B_,It.bz,iw];omega);have hC3:=xw N D ((i+1)*5) w _ hC2.drew;rw[←hW3]at hB3 hC3;simp only[←hW3]at hcpB;have hfin:W3.ownsRow base 36 5 (.slice (some ⟨N,0,none⟩) (n+1) G) (n+1) (itc (l.take i++x::l.drop i)):=by
  refine⟨by rw[iw,e_,r_,u_,B_];omega,.inr ⟨N,G,_,rfl,by omega,hB3,hGn,hG63,?_,?_⟩⟩
  ·simp only[aj_,e_,u_,B_,It.bz,iw]
   omega
  ·have e1:itc (l.take i++x::l.drop i)=(itc l).take (i *5)++x.cells++D:=by
    rw[qw,bz1,hD,D_];rfl
   have e2:((itc l).take (i *5)++(x.cells++ROW.toList.drop (i *5+5))).take ((i+1)*5)=(itc l).take (i *5)++x.cells:=by
    rw[←D_,Q_ (by simp only[e_,It.bz,hol];omega),i_ (by simp only[e_,It.bz,hol];omega)]
   rw[e1,e2,a6_,←D_,Q_ (by simp only[e_,It.bz,hol];omega),i_ (by simp only[e_,It.bz,hol];omega)]
 have hb3:Below w.heap.size w W3:=hC3.below l_ (by simp[hN]);have HFIN:=H_ (d_ hfin (d_ hb3 (show (Value.slice (some ⟨N,0,none⟩) (n+1) G).ownBlock=some w.heap.size by rw[hN];rfl)));have hw1:IntKind.i64.wrap ((i:Int)+1)=(i:Int)+1:=by rw[IntKind.wrap_i64];omega
 have hb1:(0:Int)≤(i:Int)+1:=by omega
 have hin:i≤n:=by omega
 have htn:((i:Int)+1).toNat=i+1:=by omega
 have hz2:¬((i:Int)=(n:Int)):=by omega
 have hg1:¬(G=i):=by omega
 have hg2:¬(G=i+1):=by omega
 have hb3:(i:Int)≤(n:Int)+1:=by omega
 have hb4:¬(n=i):=by omega
 have HRZ:=H_ hrz;have HA:=H_ hcpA;have HB:=H_ hcpB;unfold maxLen at hG63;clear ho hr hcell hN hG hol hold hROW hik hrz hzs hRs hRt hD hDl hD1 hDc hW1 hB1 hv1 hRl hC1 hcpA hW2 hB2 hC2 hb2 hcpB hW3 hB3 hC3 hfin hv hxl;go_enter Tryz.func244,Tryz.ntmps244;go_wp2_with (first
  |(at_builtin;refine Lib.wpList_append_run _ rfl _ _ _ _ rfl _ _ rfl rfl _ _ (HRZ.out _) ?_)
  |(at_builtin;refine wpList_copy_runI _ rfl _ _ 31 31 rfl _ _ rfl rfl (HA.out _ _) ?_))
 rw[HA.out];go_wp2_with fail
 go_region_law (refine step_copy_runI rfl _ _ 31 31 rfl (.slice (some ⟨N,(i+1)*5,none⟩) (n - i) (G - (i+1))) (.slice (some ⟨g,i *5,none⟩) (n - i) (n - i)) (by simp[Act.eval,Act.put]) (by simp[Act.eval,Act.put]) (HB.out _ _ _) ?_)
 go_wp2;go_ret;exact⟨_,_,rfl,HFIN.out⟩
end
section
open Go Go.RowKit Go.Lib
theorem rk3 (base:Nat) (A:Option Addr) (n cap i:Nat) (l:List It) (x:It) (vb:Nat) (w:World) (hn:n≤1000000) (hi:i≤n) (hbase:base≤w.heap.size) (ho:w.ownsRow base 36 5 (.slice A n cap) n (itc l)) (hv:BoxO w 36 vb x.cells) (hvA:∀a,A=some a→vb≠a.block):
  Calls Tryz.prog 244 #[.slice A n cap,.int .i64 (i:Int),.slice (some ⟨vb,0,none⟩) 1 1] w fun e w'=>∃A' c',e=.returned (.slice A' (n+1) c')∧w'.ownsRow base 36 5 (.slice A' (n+1) c') (n+1) (itc (l.take i++x::l.drop i))∧Chg (Value.slice A n cap).ownBlock.toList w w'∧((Value.slice A' (n+1) c').ownBlock=(Value.slice A n cap).ownBlock∨(Value.slice A' (n+1) c').ownBlock=some w.heap.size):=by
 have hln:l.length=n:=by have:=ho.1;rw[iw]at this;omega
 rcases Nat.eq_or_lt_of_le hi with rfl|hi
 ·rw[i_ (by omega),List.drop_of_length_le (by omega)]
  exact rx3 base A i cap l x vb w hn hbase ho hv
 ·rcases ho.2 with ⟨_,h0⟩|⟨g,cap',cur,hvv,hbg,_,hnc,_⟩
  ·omega
  ·injection hvv with hA _ hc
   subst hA hc
   rcases T_ n cap with h1|h1
   ·refine(ax3 base g n cap i l x vb w ho hi h1 hv (hvA _ rfl)).mono ?_
    rintro e w' ⟨A',c',h2,h3,h4,h5⟩;exact⟨A',c',h2,h3,h4,.inl (h5 g rfl)⟩
   ·obtain rfl:cap=n:=by omega
    refine(zx2 base g cap i l x vb w hn hbase ho hi hv).mono ?_;rintro e w' ⟨A',c',h2,h3,h4,h5⟩;exact⟨A',c',h2,h3,Chg.of_below h4 _,.inr h5⟩
theorem xw1 (w:World) (g o k:Nat) (hc:∀j,j < k *5→(w.cell? ⟨g,o+j,none⟩).isSome=true) (hf:∀j,j < k *5→w.frozen? ⟨g,o+j,none⟩=false):
  ∃cs:List Value,cs.length=k *5∧∀ty c,(Builtin.clear_ #[31] ty #[.slice (some ⟨g,o,none⟩) k c]).run Tryz.prog w=.ok (.tuple #[]) (w.setCells g o cs):=by
 refine⟨(Builtin.zeroCells (Value.agg #[.int .i64 0,.int .i64 0,.int .u64 0,.int .u64 0,.int .i64 0]).cells k).toList,by simp[Builtin.zeroCells,Value.cells],fun ty c=>?_⟩;have hl:(Builtin.zeroCells (Value.agg #[.int .i64 0,.int .i64 0,.int .u64 0,.int .u64 0,.int .i64 0]).cells k).toList.length=k *5:=by simp[Builtin.zeroCells,Value.cells]
 have h1:∀v∈(Builtin.zeroCells (Value.agg #[.int .i64 0,.int .i64 0,.int .u64 0,.int .u64 0,.int .i64 0]).cells k).toList,v.oneCell'=true:=fun v hv=>by
  simp only[Builtin.zeroCells,Value.cells,Array.mem_toList_iff,Array.mem_map]at hv;obtain⟨a,_,rfl⟩:=hv;have h5:a % 5 < 5:=bm_ _ (by omega);show Value.oneCell' (#[.int .i64 0,.int .i64 0,.int .u64 0,.int .u64 0,.int .i64 0][a % 5]!)=true
  generalize a % 5=b at *
  match b with
  |0=>rfl
  |1=>rfl
  |2=>rfl
  |3=>rfl
  |4=>rfl
  |b+5=>omega
 have hst:=run_storeCells_cells (P:=Tryz.prog) g o (Builtin.zeroCells (Value.agg #[.int .i64 0,.int .i64 0,.int .u64 0,.int .u64 0,.int .i64 0]).cells k).toList 0 w (by simpa [hl] using hc) (by simpa [hl] using hf) h1;simp only[bd_]at hst;have hz:(zeroValue 36).run Tryz.prog w=.ok (.agg #[.int .i64 0,.int .i64 0,.int .u64 0,.int .u64 0,.int .i64 0]) w:=by kernel_rfl
 cases k with
 |zero=>simp[Builtin.clear_,run_underlying Tryz.underlying31,Builtin.zeroCells,World.setCells]
 |succ k=>simp[Builtin.clear_,run_underlying Tryz.underlying31,hz,hst]
end
section
open Go Go.RowKit Go.Lib
theorem ov1 {P:It→Bool} {l:List It} {q:Nat} (h:q < l.length):(l.take (q+1)).filter P=(l.take q).filter P++(if P l[q]=true then [l[q]] else []):=by
 rw[o_ h,bZ_,bf_,List.filter_nil]
theorem ov4 {P:It→Bool} {l:List It} (h:l.any P=true):(l.take (l.findIdx P+1)).filter (fun y=>!P y)=l.take (l.findIdx P):=by
 have hl:l.findIdx P < l.length:=bM_.2 (by simpa using h);rw[ov1 hl];have h1:P l[l.findIdx P]=true:=bq_;have h2:(l.take (l.findIdx P)).filter (fun y=>!P y)=l.take (l.findIdx P):=aS_.2 fun y hy=>by
  obtain⟨i,hi,rfl⟩:=av_.1 hy;have:=List.not_of_lt_findIdx (p:=P) (xs:=l) (i:=i) (by omega);simpa using this
 rw[h2];simp[h1]
structure Pk (cur cs:List Value) (cap p q:Nat) (L:List It):Prop where
 len:cs.length=cap *5
 pre:cs.take (p *5)=itc L
 post:cs.drop (q *5)=cur.drop (q *5)
 pl:L.length=p
theorem Pk.skip {cur cs:List Value} {cap p q:Nat} {L:List It} (h:Pk cur cs cap p q L):Pk cur cs cap p (q+1) L:=
 ⟨h.len,h.pre,by rw[show (q+1)*5=q *5+5 by omega,←aG_,h.post,aG_],h.pl⟩
theorem Pk.keep {cur cs:List Value} {cap p q:Nat} {L:List It} (h:Pk cur cs cap p q L) (hpq:p < q) (hq:q < cap) (y:It):Pk cur (cs.take (p *5)++(y.cells++cs.drop (p *5+y.cells.length))) cap (p+1) (q+1) (L++[y]):=by
 have hl:=h.len;have hpl:=h.pl;refine⟨by simp only[e_,u_,B_,It.bz];omega,?_,?_,by simp[hpl]⟩
 ·rw[←D_,Q_ (by simp only[e_,u_,It.bz];omega),i_ (by simp only[e_,u_,It.bz];omega),h.pre,qw]
  simp[itc]
 ·rw[←D_,show (q+1)*5=(cs.take (p *5)++y.cells).length+((q - p)*5) by simp only[e_,u_,It.bz];omega,bA_,aG_,aq_ (by omega),y_]
  have:=h.skip.post;rw[show p *5+y.cells.length+((cs.take (p *5)++y.cells).length+(q - p)*5 - (cs.take (p *5)++y.cells).length)=(q+1)*5 by simp only[e_,u_,It.bz];omega,this]
  congr 1
  simp only[e_,u_,It.bz];omega
theorem nz1 (K:Nat) (hF:∀args w,(callFunc K args).run Tryz.prog w=.ok (.enter K args) w) (capt:Array Value) (P:It→Bool) (base:Nat) (A:Option Addr) (n c2 cap:Nat) (l:List It) (w:World) (hn:n≤1000000) (hc2:n≤c2) (hc3:c2≤cap) (hbase:base≤w.heap.size) (ho:w.ownsRow base 36 5 (.slice A n cap) n (itc l))
  (hK:∀x w1,(∀F,(∀a,A=some a→F=[a.block])→Chg F w w1)→Calls Tryz.prog K (#[x.val] ++capt) w1 fun e w'=>e=.returned (.bool (P x))∧Below w1.heap.size w1 w'):
  Calls Tryz.prog 216 #[.slice A n c2,.func (.func K) #[] capt] w fun e w'=>∃k A',e=.returned (.slice A' k c2)∧k=(l.filter fun y=>!P y).length∧w'.ownsRow base 36 5 (.slice A' k cap) k (itc (l.filter fun y=>!P y))∧Below base w w':=by
 have hidx:=ly3 K hF capt P A n c2 l w hn (Row.own ho) (fun x w1 hb=>hK x w1 (fun F _=>Chg.of_below hb F));have hln:l.length=n:=by have:=ho.1;rw[iw]at this;omega
 cases hany:l.any P with
 |false=>
  rw[zq hany]at hidx;have hfl:(l.filter fun y=>!P y)=l:=aS_.2 fun y hy=>by
   have:=(S_.1 hany) y hy;simpa using this
  have HF:=H_ hfl;have HO:=H_ ho;have HI:=H_ hidx;have HLN:=H_ hln;clear hidx hany hfl ho hK hln;go_enter Tryz.func216,Tryz.ntmps216;go_wp2_with fail;refine HI.out.mono ?_;rintro e w1 ⟨rfl,hb1⟩;go_wp2;go_ret;exact⟨n,A,rfl,by rw[HF.out];exact HLN.out.symm,by rw[HF.out];exact own_below HO.out hb1,hb1.mono hbase⟩
 |true=>
  rcases ho.2 with ⟨hv0,h0⟩|⟨g,cap',cur,hvv,hbg,hheap,hnc,hcm,hcs,htk⟩
  ·subst h0
   have:l=[]:=U_.1 hln;subst this
   cases hany
  injection hvv with hA _ hc;subst hA hc;have hB:BoxO w 36 g cur.toList:=by unfold BoxO;simpa using hheap
  have hcl:cur.toList.length=cap *5:=by simpa using hcs
  generalize cur.toList=cu at *;obtain⟨k0,hk0,hkl,hkP,hkf⟩:=dv3 hany;have hpre:=ov4 hany;rw[hkf]at hpre;rw[hk0]at hidx;have hP0:Pk cu cu cap k0 (k0+1) ((l.take (k0+1)).filter fun y=>!P y):=by
   rw[hpre];exact⟨hcl,by rw[bz1,←htk,aE_,aH_ (by omega)],rfl,by rw[u_];omega⟩
  have HI:=H_ hidx;have HP0:=H_ hP0;have HB:=H_ hB;have HF:=H_ hF;have HK:=H_ hK;have HTK:=H_ htk;have hkn:k0 < n:=by omega
  unfold maxLen at hcm;clear hidx hP0 hpre hany hkP hkf hk0 hF hK htk hheap ho hB;go_enter Tryz.func216,Tryz.ntmps216;go_wp2_with fail;refine HI.out.mono ?_;rintro e w1 ⟨rfl,hb1⟩;have hB1:=HB.out.below hb1;have hC1:Chg [g] w w1:=Chg.of_below hb1 [g];have e1:((k0:Int)==-1)=false:=by rw[beq_eq_false_iff_ne];omega
  have HB1:=H_ hB1;clear HI HB hB1 hb1;go_wp2_with fail
  go_loopw [5,6] (fun i j wr=>∃p q:Nat,p < q∧q≤n∧i=.int .i64 (p:Int)∧j=.int .i64 (q:Int)∧Hid (∃cs,BoxO wr 36 g cs∧Pk cu cs cap p q ((l.take q).filter fun y=>!P y))∧Chg [g] w wr) (fun i j _=>n - (intOf j).toNat)
  case atStart=>exact⟨k0,k0+1,by omega,by omega,rfl,by go_num,H_ ⟨cu,HB1.out,HP0.out⟩,hC1⟩
  case round=>
   obtain⟨p,q,hpq,hqn,rfl,rfl,HPK,hC⟩:=hrel;clear HB1 HP0 hC1 e1
   by_cases hlt:q < n
   ·obtain⟨cs,hbx,pk⟩:=HPK.out
    have hl:q < l.length:=by omega
    have hq:∀t v,t < 5→(l[q]).cells[t]?=some v→wr.cell? ⟨g,q *5+t,none⟩=some v:=fun t v ht hv=>by
     rw[hbx.cell,show cs[q *5+t]?=(cs.drop (q *5))[t]? by rw[an_],pk.post,an_,←hv,←nv2 l q t hl ht,←HTK.out,aI_,if_pos (by omega)]
    have hft:=ov1 (P:=fun y=>!P y) hl;generalize l[q]=y at *;have d0:=hq 0 _ (by omega) rfl;rw[bd_]at d0;have d1:=hq 1 _ (by omega) rfl;have d2:=hq 2 _ (by omega) rfl;have d3:=hq 3 _ (by omega) rfl;have d4:=hq 4 _ (by omega) rfl;have hC2:Chg [g] w (wr.alloc (.cells #[.int .i64 y.s,.int .i64 y.k,.int .u64 (y.t:Int),.int .u64 (y.v:Int),.int .i64 y.x] 36)):=hC.alloc _;have hk:=HK.out y (wr.alloc (.cells #[.int .i64 y.s,.int .i64 y.k,.int .u64 (y.t:Int),.int .u64 (y.v:Int),.int .i64 y.x] 36)) (fun F hF=>by rw[hF _ rfl];exact hC2);have hbn:=BoxO.new wr #[.int .i64 y.s,.int .i64 y.k,.int .u64 (y.t:Int),.int .u64 (y.v:Int),.int .i64 y.x] 36;have hbx2:=hbx.alloc (.cells #[.int .i64 y.s,.int .i64 y.k,.int .u64 (y.t:Int),.int .u64 (y.v:Int),.int .i64 y.x] 36);unfold It.val at hk;obtain⟨b,hb⟩:=n_ (P y);rw[←hb]at hk;have HFT:=H_ hft;have HB:=H_ hb;have HPk:=H_ pk;have HKK:=H_ hk;have hqi:(q:Int) < (n:Int):=by omega
    have hpi:(p:Int) < (n:Int):=by omega
    clear hft hb pk hk hq hbx HPK hl;go_wp2_with fail;rw[HF.out,Oper.upon_enter];refine HKK.out.mono ?_;rintro e w2 ⟨rfl,hb2⟩;have hbn2:=hbn.below hb2;have hbx3:=hbx2.below hb2;have hC3:Chg [g] w w2:=hC2.trans (Chg.of_below hb2 []) (fun g hg=>by cases hg);generalize wr.heap.size=bv at *
    cases b with
    |true=>
     have hpk2:Pk cu cs cap p (q+1) ((l.take (q+1)).filter fun y=>!P y):=by
      rw[HFT.out,←HB.out];simpa using HPk.out.skip
     have HPK2:=H_ hpk2;clear hpk2 d0 d1 d2 d3 d4 HKK hbn hbx2 hC2;go_wp2;go_roundw
     case rel=>exact⟨p,q+1,by omega,by omega,rfl,by go_num,H_ ⟨cs,hbx3,HPK2.out⟩,hC3⟩
     case measure=>simp[intOf];omega
    |false=>
     have hpk2:=HPk.out.keep hpq (by omega) y;have hpe:((l.take (q+1)).filter fun y=>!P y)=((l.take q).filter fun y=>!P y)++[y]:=by
      rw[HFT.out,←HB.out];rfl
     rw[←hpe]at hpk2;have hB4:=BoxO.stores y.cells (p *5) w2 cs hbx3 (by have:=HPk.out.len;rw[It.bz];omega);have hC4:=xw g y.cells (p *5) w w2 hC3;have hsome:∀t,t < 5→∃u,w2.cell? ⟨g,p *5+t,none⟩=some u:=fun t ht=>⟨cs[p *5+t]'(by have:=HPk.out.len;omega),by rw[hbx3.cell];exact j_ _⟩;obtain⟨u0,s0⟩:=hsome 0 (by omega);obtain⟨u1,s1⟩:=hsome 1 (by omega);obtain⟨u2,s2⟩:=hsome 2 (by omega);obtain⟨u3,s3⟩:=hsome 3 (by omega);obtain⟨u4,s4⟩:=hsome 4 (by omega);have z0:=hbx3.free (p *5);have z1:=hbx3.free (p *5+1);have z2:=hbx3.free (p *5+2);have z3:=hbx3.free (p *5+3);have z4:=hbx3.free (p *5+4);have b0:=hbn2.cell 0;have b1:=hbn2.cell 1;have b2:=hbn2.cell 2;have b3:=hbn2.cell 3;have b4:=hbn2.cell 4;simp only[gE0,gE1,bd_]at b0 b1 b2 b3 b4 s0;have HPK2:=H_ hpk2;have HB4:=H_ (d_ hB4 hC4);clear hpk2 hpe hB4 hC4 hsome d0 d1 d2 d3 d4 HKK hbn hbx2 hC2 hbn2 hbx3;go_wp2;go_roundw
     case rel=>exact⟨p+1,q+1,by omega,by omega,by go_num,by go_num,H_ ⟨_,HB4.out.1,HPK2.out⟩,HB4.out.2⟩
     case measure=>simp[intOf];omega
   ·obtain rfl:q=n:=by omega
    obtain⟨cs,hbx,pk⟩:=HPK.out;have hpl:=pk.pl;obtain⟨zs,hzl,hclr⟩:=xw1 wr g (p *5) (q - p) (fun j hj=>by rw[hbx.cell,j_ (by have:=pk.len;omega)];rfl) (fun j hj=>hbx.free _);obtain⟨W2,hW2⟩:=n_ (wr.setCells g (p *5) zs);have hB2:=BoxO.stores zs (p *5) wr cs hbx (by have:=pk.len;omega);have hC2:=xw g zs (p *5) w wr hC;rw[←hW2]at hB2 hC2;simp only[←hW2]at hclr;have hall:(l.take q).filter (fun y=>!P y)=l.filter (fun y=>!P y):=by rw[i_ (by omega)]
    rw[hall]at pk hpl;have hfin:W2.ownsRow base 36 5 (.slice (some ⟨g,0,none⟩) p cap) p (itc (l.filter fun y=>!P y)):=by
     refine⟨by rw[iw,hpl],.inr ⟨g,cap,_,rfl,hbg,hB2,by omega,by unfold maxLen;omega,?_,?_⟩⟩
     ·have:=pk.len
      simp only[aj_,e_,u_,B_];omega
     ·rw[a6_,Q_ (by have:=pk.len;rw[u_];omega),aE_,Nat.min_self,pk.pre]
    have HFIN:=H_ (d_ hpl.symm (d_ hfin (hC2.below hbase (by simpa using hbg))));have hno:((q:Int) < (q:Int))=False:=eq_false (by omega);have hcp:¬(c2=p):=by omega
    have hpq2:(p:Int)≤(q:Int):=by omega
    have hpq3:p≤q:=by omega
    have hpc:p≤c2:=by omega
    have hpc2:(p:Int)≤(c2:Int):=by omega
    clear hbx pk hpl hzl hB2 hC2 hall hfin HPK hC hW2;go_wp2_with fail;go_ret;exact⟨p,_,rfl,HFIN.out⟩
theorem ej3 (K:Nat) (hF:∀args w,(callFunc K args).run Tryz.prog w=.ok (.enter K args) w) (capt:Array Value) (P:It→Bool) (base:Nat) (A:Option Addr) (n cap:Nat) (l:List It) (w:World) (hn:n≤1000000) (hbase:base≤w.heap.size) (ho:w.ownsRow base 36 5 (.slice A n cap) n (itc l))
  (hK:∀x w1,(∀F,(∀a,A=some a→F=[a.block])→Chg F w w1)→Calls Tryz.prog K (#[x.val] ++capt) w1 fun e w'=>e=.returned (.bool (P x))∧Below w1.heap.size w1 w'):
  Calls Tryz.prog 216 #[.slice A n cap,.func (.func K) #[] capt] w fun e w'=>∃k A' c',e=.returned (.slice A' k c')∧k=(l.filter fun y=>!P y).length∧w'.ownsRow base 36 5 (.slice A' k c') k (itc (l.filter fun y=>!P y))∧Below base w w':=by
 have hc:n≤cap:=by
  rcases ho.2 with ⟨_,h0⟩|⟨g,cap',cur,hvv,_,_,h1,_⟩
  ·omega
  ·injection hvv with _ _ hc
   subst hc;exact h1
 exact(nz1 K hF capt P base A n cap cap l w hn hc l_ hbase ho hK).mono fun _ _ ⟨k,A',h1,h2⟩=>⟨k,A',cap,h1,h2⟩
end
section
open Go Go.RowKit Go.Lib
theorem xj2 {l:List It} (h:uq l) (x:It) (hk:pos l x < l.length) (hs:It.same l[pos l x] x=true):dj1 l x= !(x.wins l[pos l x])∧put l x=l.set (pos l x) x:=by
 refine⟨?_,cw5 h (j_ hk) hs⟩;unfold dj1
 cases hw:x.wins l[pos l x] with
 |false=>exact aO_.2 ⟨_,v_ hk,by simp[hs,hw]⟩
 |true=>
  rw[bU_,S_];intro y hy hc;simp only[K_,bp_]at hc;have:y=l[pos l x]:=kq1 h hy (v_ hk) (by have:=hc.1;rw[It.same_iff]at *;omega);rw[this,hw]at hc
  cases hc.2
theorem jx3 {l:List It} (h:uq l) (x:It) (hs:(l.any fun y=>y.same x)=false):dj1 l x=false∧put l x=l.take (pos l x)++x::l.drop (pos l x):=by
 rw[S_]at hs;refine⟨?_,oq3 h (fun y hy=>?_)⟩
 ·unfold dj1
  rw[S_];intro y hy hc;simp only[K_]at hc;exact hs y hy hc.1
 ·have:=hs y (p_ hy)
  simpa using this
theorem av5 {base g n cap i:Nat} {l:List It} {w:World} (x:It) (ho:w.ownsRow base 36 5 (.slice (some ⟨g,0,none⟩) n cap) n (itc l)) (hi:i < n):
  (w.setCells g (i *5) x.cells).ownsRow base 36 5 (.slice (some ⟨g,0,none⟩) n cap) n (itc (l.set i x))∧(∀t,t < 5→∃u,w.cell? ⟨g,i *5+t,none⟩=some u)∧(∀t,w.frozen? ⟨g,t,none⟩=false):=by
 have hxl:=ho.1;rw[iw]at hxl
 rcases ho.2 with ⟨_,h0⟩|⟨g',cap',cur,hvv,hbg,hheap,hnc,hcm,hcs,htk⟩
 ·omega
 injection hvv with hv1 hv2 hv3;injection hv1 with hv1;injection hv1 with hv1;subst hv1 hv3;have hB:BoxO w 36 g cur.toList:=by unfold BoxO;simpa using hheap
 have hcl:cur.toList.length=cap *5:=by simpa using hcs
 refine⟨⟨by rw[iw,au_];omega,.inr ⟨g,cap,_,rfl,hbg,BoxO.stores x.cells (i *5) w _ hB (by rw[It.bz];omega),hnc,hcm,?_,?_⟩⟩,fun t ht=>⟨cur.toList[i *5+t]'(by omega),by rw[hB.cell];exact j_ _⟩,fun t=>hB.free t⟩
 ·simp only[aj_,e_,u_,B_,It.bz]
  omega
 ·have e1:itc (l.set i x)=(itc l).take (i *5)++(x.cells++(itc l).drop ((i+1)*5)):=by
   rw[aJ_,if_pos (by omega),qw,bz1,←kw1];rfl
  rw[e1,←htk,aE_,aH_ (by omega),List.drop_take,a6_,It.bz,←D_,←D_,List.take_append,i_ (by simp only[e_,u_,It.bz];omega)]
  congr 2
  ·simp only[e_,u_,It.bz]
   omega
  ·rw[show i *5+5=(i+1)*5 by omega]
theorem zv4 (A:Option Addr) (n c:Nat) (l:List It) (w:World) (hn:n≤1000000) (hr:Row w.heap.size w A n 5 (itc l)):
  Calls Tryz.prog 173 #[.slice A n c] w fun e w'=>∃A' c',e=.returned (.slice A' n c')∧w'.ownsRow w.heap.size 36 5 (.slice A' n c') n (itc l)∧Below w.heap.size w w':=by
 obtain⟨i0,hi0,hz0,hz1,hz2⟩:=info_parts rq;have HR:=H_ hr;clear hr;go_enter Tryz.func173,Tryz.ntmps173;go_wp2_with (at_builtin;refine iy ?_);refine gz (ry rfl _ (.tmp 3) _ rfl w.heap.size 36 i0 _ 5 40 Tryz.underlying31 hi0 hz0 hz1 hz2 rfl (by omega) w b0_ l_ rfl w.heap.size A n c (itc l) rfl HR.out (xq l) (by unfold maxLen;omega) (by omega) ?_);intro A' c' w' h1 h2 h3 h4 h5;go_wp2;go_ret;exact⟨_,_,rfl,h1,h2⟩
theorem tx4 (x y:It) (b:Nat) (w:World) (hb:BoxO w 36 b x.cells):
  Calls Tryz.prog 245 (#[y.val] ++#[.pointer (some ⟨b,0,none⟩)]) w fun e w'=>e=.returned (.bool (x.hides y))∧Below w.heap.size w w':=by
 have hh:=fun W=>iq2 x y W;have hbo:=b_ w (.cells #[.int .i64 y.s,.int .i64 y.k,.int .u64 (y.t:Int),.int .u64 (y.v:Int),.int .i64 y.x] 36);have hb2:=hb.alloc (.cells #[.int .i64 y.s,.int .i64 y.k,.int .u64 (y.t:Int),.int .u64 (y.v:Int),.int .i64 y.x] 36);have b0:=hb2.cell 0;have b1:=hb2.cell 1;have b2:=hb2.cell 2;have b3:=hb2.cell 3;have b4:=hb2.cell 4;unfold It.val at hh ⊢;simp only[It.cells,gE0,gE1]at b0 b1 b2 b3 b4;have HH:=H_ hh;clear hh hb hb2;go_enter Tryz.func245,Tryz.ntmps245;go_wp2_with fail;refine(HH.out _).mono ?_;rintro e w1 ⟨rfl,hb1⟩;have hbz:=az hbo hb1;go_wp2;go_ret;exact⟨rfl,hbz⟩
theorem gw2 (x:It) (b base:Nat) (A:Option Addr) (n cap:Nat) (l:List It) (w:World) (hn:n≤1000000) (hbase:base≤w.heap.size) (ho:w.ownsRow base 36 5 (.slice A n cap) n (itc l)) (hb:BoxO w 36 b x.cells) (hA:(Value.slice A n cap).ownBlock≠some b):
  Calls Tryz.prog 216 #[.slice A n cap,.func (.func 245) #[] #[.pointer (some ⟨b,0,none⟩)]] w fun e w'=>∃k A' c',e=.returned (.slice A' k c')∧k=(l.filter fun y=>!x.hides y).length∧w'.ownsRow base 36 5 (.slice A' k c') k (itc (l.filter fun y=>!x.hides y))∧Below base w w':=by
 refine ej3 245 (fun _ _=>rfl) #[.pointer (some ⟨b,0,none⟩)] (fun y=>x.hides y) base A n cap l w hn hbase ho (fun y w1 hw=>tx4 x y b w1 ?_)
 cases A with
 |none=>exact hb.chg (hw [] (fun a ha=>by cases ha)) (by simp)
 |some a=>exact hb.chg (hw [a.block] (fun a' ha=>by injection ha with ha;rw[ha])) (by
   intro h;exact hA (by rw[c_.1 h];rfl))
end
section
open Go Go.RowKit Go.Lib
theorem ix5 {base g n cap k:Nat} {l:List It} {w:World} (ho:w.ownsRow base 36 5 (.slice (some ⟨g,0,none⟩) n cap) n (itc l)) (hl:k < l.length):∀t v,t < 5→(l[k]).cells[t]?=some v→w.cell? ⟨g,k *5+t,none⟩=some v:=by
 intro t v ht hv;have hr:=Row.own ho;have:=hr.cells (k *5+t) v ((nv2 l k t hl ht).trans hv)
 rwa [Addr.add_lit,ag_]at this
def mz2 (base:Nat) (w:World) (R:List It) (e:Ending) (w':World):Prop:=∃k A' c',e=.returned (.slice A' k c')∧k=R.length∧w'.ownsRow base 36 5 (.slice A' k c') k (itc R)∧Below base w w'
theorem kz31 {P S a oi v} (h:Hv P S a oi v:=by intro w hSw;(obtain⟨⟨c0,c1,c2,c3,c4⟩,d0,d1,d2,d3,d4⟩:=KC.out w hSw);go_simp;try (with_reducible rfl)):Hv P S a oi v:=h
theorem kz32 {P S a oi v} (h:Hv P S a oi v:=by intro w hSw;skip;go_simp;try (with_reducible rfl)):Hv P S a oi v:=h
theorem oj4 (base:Nat) (A:Option Addr) (n cap:Nat) (l:List It) (x:It) (w:World) (hn:n≤999999) (hbase:base≤w.heap.size) (hS:Stt l) (ho:w.ownsRow base 36 5 (.slice A n cap) n (itc l)):
  Calls Tryz.prog 175 #[.slice A n cap,x.val] w (mz2 base w (add l x)):=by
 have hln:l.length=n:=by have:=ho.1;rw[iw]at this;omega
 have hbV:=(Below.refl base w).alloc hbase (.cells #[.int .i64 x.s,.int .i64 x.k,.int .u64 (x.t:Int),.int .u64 (x.v:Int),.int .i64 x.x] 36);have hoV:=own_below ho (b_ w (.cells #[.int .i64 x.s,.int .i64 x.k,.int .u64 (x.t:Int),.int .u64 (x.v:Int),.int .i64 x.x] 36));have hbx:BoxO (w.alloc (.cells #[.int .i64 x.s,.int .i64 x.k,.int .u64 (x.t:Int),.int .u64 (x.v:Int),.int .i64 x.x] 36)) 36 w.heap.size x.cells:=BoxO.new w #[.int .i64 x.s,.int .i64 x.k,.int .u64 (x.t:Int),.int .u64 (x.v:Int),.int .i64 x.x] 36;have hne:(Value.slice A n cap).ownBlock≠some w.heap.size:=fun h=>by have:=(ho.lt _ h).2;omega
 obtain⟨g,hg⟩:=n_ w.heap.size;obtain⟨V,hV⟩:=n_ (w.alloc (.cells #[.int .i64 x.s,.int .i64 x.k,.int .u64 (x.t:Int),.int .u64 (x.v:Int),.int .i64 x.x] 36));have hVs:base≤V.heap.size:=by rw[hV];simp;omega
 rw[←hg]at hbx hne;rw[←hV]at hbV hoV hbx;have hok:=fun W=>nk1 x W;have hhd:=fun W (hW:Below V.heap.size V W)=>ey2 A n cap l x W (by omega) hS.rises hS.ok (Row.own (own_below hoV hW));have hpl:=fun W (hW:Below V.heap.size V W)=>tj2 A n cap l x W (by omega) hS.rises (Row.own (own_below hoV hW));have hkx:∀w',Below V.heap.size V w'→w'.cell? ⟨g,0,none⟩=some (.int .i64 x.s)∧w'.cell? ⟨g,1,none⟩=some (.int .i64 x.k)∧w'.cell? ⟨g,2,none⟩=some (.int .u64 (x.t:Int))∧w'.cell? ⟨g,3,none⟩=some (.int .u64 (x.v:Int))∧w'.cell? ⟨g,4,none⟩=some (.int .i64 x.x):=fun w' hb=>by
  have hB:=hbx.below hb;exact⟨hB.cell 0,hB.cell 1,hB.cell 2,hB.cell 3,hB.cell 4⟩
 have hfd:=xj2 hS.rises x;have hls:=jx3 hS.rises x;have hat:=wy2 hS.rises x;have hof:=aj2 hS.rises x;have hrl0:=sj2 l x;obtain⟨R,hR⟩:=n_ (add l x);rw[←hR];unfold add at hR;unfold It.val at hok hhd hpl ⊢;generalize (l.any fun y=>y.same x)=b at *;generalize pos l x=r at *;generalize hq1:x.ok=o1 at *;generalize hq2:hidden l x=o2 at *;have hfin1:∀w',R=l→Below V.heap.size V w'→mz2 base w R (.returned (.slice A n cap)) w':=fun w' h hb=>by
  rw[h];exact⟨n,A,cap,rfl,hln.symm,own_below hoV hb,hbV.trans (hb.mono hVs)⟩
 have HOK:=H_ hok;have HHD:=H_ hhd;have HPL:=H_ hpl;have HKX:=H_ hkx;have HFD:=H_ hfd;have HLS:=H_ hls;have HAT:=H_ hat;have HOF:=H_ hof;have HR:=H_ hR;have HF1:=H_ hfin1;have HOV:=H_ hoV;have HBX:=H_ hbx;have HV:=H_ hV;have HG:=H_ hg;clear hok hhd hpl hkx hfd hls hat hof hR hfin1 hoV hbx hV hg hq1 hq2 ho;go_enter Tryz.func175,Tryz.ntmps175;go_wp2_with fail;rw[←HV.out,←HG.out];refine(HOK.out _).mono ?_;rintro e w1 ⟨rfl,hb1⟩;obtain⟨x0,x1,x2,x3,x4⟩:=HKX.out _ hb1
 cases o1 with
 |false=>
  have h1:=HF1.out w1 (by rw[HR.out];rfl) hb1;have H1:=H_ h1;clear h1;go_wp2;go_ret;exact H1.out
 |true=>
  go_wp2_with fail;refine(HHD.out _ hb1).mono ?_;rintro e w2 ⟨rfl,hb2'⟩;have hb2:=az hb1 hb2';clear x0 x1 x2 x3 x4;obtain⟨x0,x1,x2,x3,x4⟩:=HKX.out _ hb2
  cases o2 with
  |true=>
   have h1:=HF1.out w2 (by rw[HR.out];rfl) hb2;have H1:=H_ h1;clear h1;go_wp2;go_ret;exact H1.out
  |false=>
   go_wp2_with fail;refine(HPL.out _ hb2).mono ?_;rintro e w3 ⟨rfl,hb3'⟩;have hb3:=az hb2 hb3';clear x0 x1 x2 x3 x4 hb1 hb2' hb2 hb3' HOK HHD HPL;have hgV:=HBX.out.lt
   cases b with
   |true=>
    have hrl:r < l.length:=by
     rcases T_ r l.length with h|h
     ·exact h
     ·have:=HOF.out (by omega)
      cases this
    have hsm:=HAT.out hrl;obtain⟨hbt,hput⟩:=HFD.out hrl hsm
    rcases HOV.out.2 with ⟨_,h0⟩|⟨g0,cap',cur,hvv,hbg,_,hnc,_⟩
    ·omega
    injection hvv with hA _ hc;subst hA hc;have hq:=ix5 (own_below HOV.out hb3) hrl;have hwn:=fun W=>ak2 x l[r] W;clear hsm;generalize l[r]=y at *;have hkc:∀w',Below w3.heap.size w3 w'→(w'.cell? ⟨g,0,none⟩=some (.int .i64 x.s)∧w'.cell? ⟨g,1,none⟩=some (.int .i64 x.k)∧w'.cell? ⟨g,2,none⟩=some (.int .u64 (x.t:Int))∧w'.cell? ⟨g,3,none⟩=some (.int .u64 (x.v:Int))∧w'.cell? ⟨g,4,none⟩=some (.int .i64 x.x))∧w'.cell? ⟨g0,r *5,none⟩=some (.int .i64 y.s)∧w'.cell? ⟨g0,r *5+1,none⟩=some (.int .i64 y.k)∧w'.cell? ⟨g0,r *5+2,none⟩=some (.int .u64 (y.t:Int))∧w'.cell? ⟨g0,r *5+3,none⟩=some (.int .u64 (y.v:Int))∧w'.cell? ⟨g0,r *5+4,none⟩=some (.int .i64 y.x):=fun w' hb=>by
     have hlt:=HOV.out.lt g0 rfl;have hc:=fun j=>hb.cell (p:=⟨g0,j,none⟩) (L_ hlt.2 hb3.size);exact⟨HKX.out _ (hb3.trans (hb.mono hb3.size)),(hc _).trans (hq 0 _ (by omega) rfl),(hc _).trans (hq 1 _ (by omega) rfl),(hc _).trans (hq 2 _ (by omega) rfl),(hc _).trans (hq 3 _ (by omega) rfl),(hc _).trans (hq 4 _ (by omega) rfl)⟩
    unfold It.val at hwn;obtain⟨q,hqq⟩:=n_ (x.wins y);rw[←hqq]at hwn hbt;have KC:=H_ hkc;have HW:=H_ hwn;have HBT:=H_ hbt;have HPT:=H_ hput;have hrn:(r:Int) < (n:Int):=by omega
    clear hkc hwn hbt hput hqq hq HFD HLS HAT HOF;go_wp2_with fail;refine wp_region_held_drew (S:=fun w'=>Below w3.heap.size w3 w') rfl (ak b0_) (fun hSw=>?_);refine w_v 0 hSw ?_ (k:=kz31);go_simp;refine w_v 1 hSw ?_ (k:=kz31);go_simp;refine w_v 2 hSw ?_ (k:=kz31);go_simp;refine w_v 3 hSw ?_ (k:=kz31);go_simp;refine w_v 4 hSw ?_ (k:=kz31);go_simp;refine w_v 5 hSw ?_ (k:=kz31);go_simp;refine w_v 6 hSw ?_ (k:=kz31);go_simp;refine w_r 7 fun K hK=>?_;go_simp
    with_reducible refine(HW.out _).mono ?_
    rintro e w4 ⟨rfl,hb4⟩;go_simp;refine hK.out _ _ (hSw.trans (hb4.mono hSw.size)) ?_;clear hSw hK K;intro hSw;go_simp;refine w_v 8 hSw ?_ (k:=kz31);go_simp;refine w_v 9 hSw ?_ (k:=kz31);go_simp;refine w_v 10 hSw ?_ (k:=kz31);go_simp;refine wpAnyH_done (by kernel_rfl) ?_ _;have hb5:=hb3.trans (hSw.mono hb3.size);generalize w4=w5 at *;clear hb4
    cases q with
    |false=>
     have h1:=HF1.out w5 (by rw[HR.out,HBT.out];rfl) hb5;have H1:=H_ h1;clear h1 hSw KC HW;go_wp2;go_ret;exact H1.out
    |true=>
     have hR2:R=(l.set r x).filter fun y=>!x.hides y:=by
      rw[HR.out,HBT.out,HPT.out];rfl
     obtain⟨⟨x0,x1,x2,x3,x4⟩,_⟩:=KC.out _ hSw;obtain⟨ho5,hsome,hfree⟩:=av5 x (own_below HOV.out hb5) (show r < n by omega);obtain⟨u0,s0⟩:=hsome 0 (by omega);obtain⟨u1,s1⟩:=hsome 1 (by omega);obtain⟨u2,s2⟩:=hsome 2 (by omega);obtain⟨u3,s3⟩:=hsome 3 (by omega);obtain⟨u4,s4⟩:=hsome 4 (by omega);have z0:=hfree (r *5);have z1:=hfree (r *5+1);have z2:=hfree (r *5+2);have z3:=hfree (r *5+3);have z4:=hfree (r *5+4);rw[bd_]at s0;have hC:=xw g0 x.cells (r *5) w5 w5 (Chg.refl _ _);have hbx6:=(HBX.out.below hb5).chg hC (by
      intro h;exact hne (by rw[c_.1 h];rfl))
     have hst:=gw2 x g base _ n cap _ _ (by omega) (h_ (h_ hVs hb5.size) hC.size) ho5 hbx6 hne;rw[←hR2]at hst;have hbz:Below base w (w5.setCells g0 (r *5) x.cells):=(hbV.trans (hb5.mono hVs)).trans (hC.below (h_ hVs hb5.size) (by simpa using hbg));have HST:=H_ (d_ hst hbz);clear hst hbz hbx6 hC ho5 hsome hfree KC HW hSw hR2;go_wp2_with fail;refine HST.out.1.mono ?_;rintro e w7 ⟨k,A',c',rfl,hk,ho7,hb7⟩;have H7:mz2 base w R (.returned (.slice A' k c')) w7:=⟨k,A',c',rfl,hk,ho7,HST.out.2.trans hb7⟩;have H8:=H_ H7;clear H7 ho7 hb7 hk;go_wp2;go_ret;exact H8.out
   |false=>
    obtain⟨hbt,hput⟩:=HLS.out rfl;have hR2:R=(l.take r++x::l.drop r).filter fun y=>!x.hides y:=by
     rw[HR.out,hbt,hput];rfl
    have HR2:=H_ hR2;clear hbt hput hR2 HFD HLS HAT HOF HF1;go_wp2_with fail;refine wp_region_held_drew (S:=fun w'=>Below w3.heap.size w3 w') rfl (ak b0_) (fun hSw=>?_);refine w_v 0 hSw ?_ (k:=kz32);go_simp;refine w_v 1 hSw ?_ (k:=kz32);go_simp;refine wpT0 (i:=2) hSw ?_;go_simp;refine wpT0 (i:=3) hSw ?_;go_simp;refine wpT0 (i:=4) hSw ?_;go_simp;refine wpT0 (i:=5) hSw ?_;go_simp;refine wpT0 (i:=6) hSw ?_;go_simp;refine wpT0 (i:=7) hSw ?_;go_simp;refine wpT0 (i:=8) hSw ?_;go_simp;refine w_v 9 hSw ?_ (k:=kz32);go_simp;refine w_v 10 hSw ?_ (k:=kz32);go_simp;refine wpAnyH_done (by kernel_rfl) ?_ _;have hb5:=hb3.trans (hSw.mono hb3.size);obtain⟨w5,hw5⟩:=n_ w3.drew;rw[←hw5]at hb5 ⊢;clear hSw hw5;obtain⟨x0,x1,x2,x3,x4⟩:=HKX.out _ hb5;have ho5:=own_below HOV.out hb5;have hbA:=b_ w5 (.cells #[.int .i64 x.s,.int .i64 x.k,.int .u64 (x.t:Int),.int .u64 (x.v:Int),.int .i64 x.x] 36);have hb6:=az hb5 hbA;have ho6:=own_below ho5 hbA;have hvb:BoxO (w5.alloc (.cells #[.int .i64 x.s,.int .i64 x.k,.int .u64 (x.t:Int),.int .u64 (x.v:Int),.int .i64 x.x] 36)) 36 w5.heap.size x.cells:=BoxO.new w5 #[.int .i64 x.s,.int .i64 x.k,.int .u64 (x.t:Int),.int .u64 (x.v:Int),.int .i64 x.x] 36;have hA5:∀a,A=some a→w5.heap.size≠a.block:=fun a ha h=>by
     subst ha;have:=(ho5.lt a.block rfl).2;omega
    have hins:=rk3 base A n cap r l x w5.heap.size _ (by omega) (by omega) (h_ hVs hb6.size) ho6 hvb hA5;have HINS:=H_ hins;have HB6:=H_ hb6;have HV6:=H_ (hbV.trans (hb6.mono hVs));have HO6:=H_ ho6;clear hins hvb hA5 ho6 ho5 hbA hb6 hb5;go_wp2_with fail;refine HINS.out.mono ?_;rintro e w7 ⟨A',c',rfl,ho7,hb7,hob⟩;have hbx7:BoxO w7 36 g x.cells:=(HBX.out.below HB6.out).chg hb7 (fun h=>hne (by simpa using h));have hne7:(Value.slice A' (n+1) c').ownBlock≠some g:=by
     rcases hob with h|h
     ·rw[h];exact hne
     ·rw[h]
      intro h2;injection h2 with h2;have:=HB6.out.size;omega
    have hb7':=hb7.below (B:=base) (h_ hVs HB6.out.size) (fun b hb=>(HO6.out.lt b (by simpa using hb)).1);have hst:=gw2 x g base A' (n+1) c' _ w7 (by omega) (h_ (h_ hVs HB6.out.size) hb7.size) ho7 hbx7 hne7;rw[←HR2.out]at hst;have HST:=H_ (d_ hst (HV6.out.trans hb7'));clear hst hbx7 hne7 ho7 hob hb7 hb7' HINS;go_wp2_with fail;refine HST.out.1.mono ?_;rintro e w8 ⟨k,A2,c2,rfl,hk,ho8,hb8⟩;have H7:mz2 base w R (.returned (.slice A2 k c2)) w8:=⟨k,A2,c2,rfl,hk,ho8,HST.out.2.trans hb8⟩;have H8:=H_ H7;clear H7 ho8 hb8 hk;go_wp2;go_ret;exact H8.out
end
end Go.Proofs.YthjdpplgfdihoaaGreatDoor
