/- Texts HdelA, MergeA in one. No conditions. -/
import Derived.Test.YthjdpplgfdihoaaGreatDoorBunBA
import Derived.Test.YthjdpplgfdihoaaGreatDoorBunAW
import Derived.Test.YthjdpplgfdihoaaGreatDoorBunAY

set_option linter.unusedSimpArgs false
set_option linter.unusedVariables false
set_option maxRecDepth 100000
set_option maxHeartbeats 16000000
namespace Go.Proofs.YthjdpplgfdihoaaGreatDoor
section
open Go Go.RowKit Go.Lib Go.Shelf
theorem sy3 (l:List Int) (x:Int) (A:Option Addr) (n c:Nat) (hn:n≤1000000) (w:World) (h:Row w.heap.size w A n 1 (vk l)):
  Calls Tryz.prog 191 #[.slice A n c,.int .i64 x] w fun e w'=>(∃r:Int,e=.returned (.int .i64 r)∧(0≤r↔x∈l))∧w=w':=by
 have hlen:=h.len;unfold vk at hlen;rw[az_]at hlen;have HL:=H_ hlen;clear hlen;go_enter Tryz.func191,Tryz.ntmps191;go_wp2
 go_loop [8] (fun i=>∃k:Nat,k≤n∧i=.int .i64 (k:Int)∧Hid (∀j,j < k→l[j]?≠some x)) (fun i=>n - (intOf i).toNat)
 case atStart=>exact⟨0,t_ _,rfl,H_ (fun j hj=>absurd hj (Nat.not_lt_zero _))⟩
 case round=>
  obtain⟨k,hk,rfl,HK⟩:=hrel
  by_cases hlt:k < n
  ·obtain⟨a,hl,rfl,hba,hc⟩:=h.int_ hlt
   have F:=H_ (j_ hl);generalize l[k]=y at *
   by_cases hxy:x=y
   ·subst hxy
    go_wp2;go_ret;refine⟨⟨(k:Int),rfl,⟨fun _=>p_ F.out,fun _=>by omega⟩⟩,rfl⟩
   ·have hne:(x==y)=false:=beq_eq_false_iff_ne.2 hxy
    have HX:=H_ hxy;clear hxy;go_wp2
    go_round
    case rel=>
     refine⟨k+1,hlt,by go_num,H_ fun j hj=>?_⟩
     rcases T_ j k with h1|h1
     ·exact HK.out j h1
     ·obtain rfl:j=k:=by omega
      rw[F.out];intro e;injection e with e;exact HX.out e.symm
    case measure=>simp[intOf];omega
  ·obtain rfl:k=n:=by omega
   go_wp2;go_ret;refine⟨⟨-1,rfl,⟨fun h=>by omega,fun hm=>?_⟩⟩,rfl⟩;obtain⟨j,hj,e⟩:=bt_.1 hm;exact absurd (by rw[j_ hj,e]) (HK.out j (by rw[HL.out]at hj;omega))
theorem my2 (l:List Int) (x:Int) (A:Option Addr) (n c:Nat) (hn:n≤1000000) (w:World) (h:Row w.heap.size w A n 1 (vk l)):
  Calls Tryz.prog 102 #[.slice A n c,.int .i64 x] w fun e w'=>e=.returned (.bool (decide (x∈l)))∧w=w':=by
 have HI:=H_ (sy3 l x A n c hn w h)
 by_cases hx:x∈l
 all_goals
  have HX:=H_ hx;clear hx;go_enter Tryz.func102,Tryz.ntmps102;go_wp2_with fail;refine HI.out.mono ?_;rintro e w1 ⟨⟨r,rfl,hr⟩,rfl⟩;have h0:decide (0≤r)=decide (x∈l):=decide_eq_decide.2 hr
  first|rw[decide_eq_true HX.out]at h0|rw[decide_eq_false HX.out]at h0
  clear hr HI;go_wp2;go_ret;exact⟨ix1 (by first|rw[decide_eq_true HX.out]|rw[decide_eq_false HX.out]),rfl⟩
def Tq.cells (x:Tq):List Value:=[.int .i64 x.1.1.1,.int .i64 x.1.1.2,.pointer (some ⟨x.2,0,none⟩)]
def Tq.val (x:Tq):Value:=.agg #[.int .i64 x.1.1.1,.int .i64 x.1.1.2,.pointer (some ⟨x.2,0,none⟩)]
theorem pj2 (a b:List Tq):hcells (a++b)=hcells a++hcells b:=a4_
theorem dy3 (q:List Tq):∀k,hcells (q.take k)=(hcells q).take (k *3):=by
 induction q with
 |nil=>intro k;simp[hcells]
 |cons a q ih=>
  intro k
  cases k with
  |zero=>simp[hcells]
  |succ k=>
   have h1:hcells (a::q)=a.cells++hcells q:=rfl;have h2:hcells ((a::q).take (k+1))=a.cells++hcells (q.take k):=rfl;rw[h1,h2,show (k+1)*3=a.cells.length+k *3 by simp[Tq.cells];omega,List.take_length_add_append,ih]
theorem qy3 (q:List Tq) (k t:Nat) (hk:k < q.length) (ht:t < 3):(hcells q)[k *3+t]?=(q[k]).cells[t]?:=jy1 (fun p:Tq=>[Value.int .i64 p.1.1.1,.int .i64 p.1.1.2,.pointer (some ⟨p.2,0,none⟩)]) 3 (fun _=>rfl) q k t hk ht
theorem pj4 (K:Nat) (hF:∀args w,(callFunc K args).run Tryz.prog w=.ok (.enter K args) w) (capt:Array Value) (P:Tq→Bool) (A:Option Addr) (n c:Nat) (l:List Tq) (w:World) (hn:n≤1000000) (hr:Row w.heap.size w A n 3 (hcells l))
  (hK:∀x w1,Below w.heap.size w w1→Calls Tryz.prog K (#[x.val] ++capt) w1 fun e w'=>e=.returned (.bool (P x))∧Below w1.heap.size w1 w'):
  Calls Tryz.prog 190 #[.slice A n c,.func (.func K) #[] capt] w fun e w'=>e=.returned (.int .i64 (fidx P l))∧Below w.heap.size w w':=by
 have hnn:l.length=n:=by have:=hr.len;rw[qy]at this;omega
 have HK:=H_ hK;have HF:=H_ hF;have HR:=H_ hr;clear hK hF hr;go_enter Tryz.func190,Tryz.ntmps190;go_wp2
 go_loopw [8] (fun i wr=>∃k:Nat,k≤n∧i=.int .i64 (k:Int)∧Hid ((l.take k).any P=false)∧Below w.heap.size w wr) (fun i _=>n - (intOf i).toNat)
 case atStart=>exact⟨0,t_ _,rfl,H_ rfl,Below.refl _ _⟩
 case round=>
  obtain⟨k,hk,rfl,hb,hbl⟩:=hrel
  by_cases hlt:k < n
  ·have hl:k < l.length:=by omega
   obtain⟨a,rfl,hab,hc0,hc1,hc2⟩:=dq4 HR.out hl;have hab2:(a.add (k *3)).block < w.heap.size:=by rw[add_block];exact hab
   have c0:=(hbl.cell (p:=a.add (k *3)) hab2).trans hc0;have c1:=(hbl.cell (p:=⟨(a.add (k *3)).block,(a.add (k *3)).off+1,none⟩) hab2).trans hc1;have c2':=(hbl.cell (p:=⟨(a.add (k *3)).block,(a.add (k *3)).off+2,none⟩) hab2).trans hc2;have ht:=mz1 (P:=P) hl;have hs:=fun h1=>fw1 (P:=P) hl hb.out h1;generalize l[k]=f at *;have HT:=H_ ht;have HS:=H_ hs;clear ht hs hl hc0 hc1 hc2;have hc:=HK.out f wr hbl;unfold Tq.val at hc;generalize hp:P f=p at hc;have HP:=H_ hp;clear hp;have hki:(k:Int) < (n:Int):=by omega
   go_wp2_with fail;rw[HF.out,Oper.upon_enter];refine hc.mono ?_;rintro e w1 ⟨rfl,hb1⟩
   cases p with
   |true=>
    go_wp2;go_ret;exact⟨uy1 (HS.out HP.out).symm,az hbl hb1⟩
   |false=>
    go_wp2;go_roundw
    case rel=>exact⟨k+1,by omega,by go_num,H_ (by rw[HT.out,hb.out,HP.out];rfl),az hbl hb1⟩
    case measure=>simp[intOf];omega
  ·have hall:fidx P l=-1:=zq (by
    have hb':=hb.out
    rwa [i_ (by omega)]at hb')
   have HA:=H_ hall;clear hall;have hki:((k:Int) < (n:Int))=False:=eq_false (by omega);go_wp2;go_ret;exact⟨uy1 HA.out.symm,hbl⟩
theorem dz2 {P:Tq→Bool} {l:List Tq} {q:Nat} (h:q < l.length):(l.take (q+1)).filter P=(l.take q).filter P++(if P l[q]=true then [l[q]] else []):=by
 rw[o_ h,bZ_,bf_,List.filter_nil]
theorem dx4 {P:Tq→Bool} {l:List Tq} (h:l.any P=true):(l.take (l.findIdx P+1)).filter (fun y=>!P y)=l.take (l.findIdx P):=by
 have hl:l.findIdx P < l.length:=bM_.2 (by simpa using h);rw[dz2 hl];have h1:P l[l.findIdx P]=true:=bq_;have h2:(l.take (l.findIdx P)).filter (fun y=>!P y)=l.take (l.findIdx P):=aS_.2 fun y hy=>by
  obtain⟨i,hi,rfl⟩:=av_.1 hy;have:=List.not_of_lt_findIdx (p:=P) (xs:=l) (i:=i) (by omega);simpa using this
 rw[h2];simp[h1]
structure Hk (cur cs:List Value) (cap p q:Nat) (L:List Tq):Prop where
 len:cs.length=cap *3
 pre:cs.take (p *3)=hcells L
 post:cs.drop (q *3)=cur.drop (q *3)
 pl:L.length=p
theorem Hk.skip {cur cs:List Value} {cap p q:Nat} {L:List Tq} (h:Hk cur cs cap p q L):Hk cur cs cap p (q+1) L:=
 ⟨h.len,h.pre,by rw[show (q+1)*3=q *3+3 by omega,←aG_,h.post,aG_],h.pl⟩
theorem Tq.bz (x:Tq):x.cells.length=3:=rfl
theorem Hk.keep {cur cs:List Value} {cap p q:Nat} {L:List Tq} (h:Hk cur cs cap p q L) (hpq:p < q) (hq:q < cap) (y:Tq):Hk cur (cs.take (p *3)++(y.cells++cs.drop (p *3+y.cells.length))) cap (p+1) (q+1) (L++[y]):=by
 have hl:=h.len;have hpl:=h.pl;refine⟨by simp only[e_,u_,B_,Tq.bz];omega,?_,?_,by simp[hpl]⟩
 ·rw[←D_,Q_ (by simp only[e_,u_,Tq.bz];omega),i_ (by simp only[e_,u_,Tq.bz];omega),h.pre,pj2]
  rfl
 ·rw[←D_,show (q+1)*3=(cs.take (p *3)++y.cells).length+((q - p)*3) by simp only[e_,u_,Tq.bz];omega,bA_,aG_,aq_ (by omega),y_]
  have:=h.skip.post;rw[show p *3+y.cells.length+((cs.take (p *3)++y.cells).length+(q - p)*3 - (cs.take (p *3)++y.cells).length)=(q+1)*3 by simp only[e_,u_,Tq.bz];omega,this]
  congr 1
  simp only[e_,u_,Tq.bz];omega
theorem bx2 (w:World) (g o k:Nat) (hc:∀j,j < k *3→(w.cell? ⟨g,o+j,none⟩).isSome=true) (hf:∀j,j < k *3→w.frozen? ⟨g,o+j,none⟩=false):
  ∃cs:List Value,cs.length=k *3∧∀ty c,(Builtin.clear_ #[141] ty #[.slice (some ⟨g,o,none⟩) k c]).run Tryz.prog w=.ok (.tuple #[]) (w.setCells g o cs):=by
 refine⟨(Builtin.zeroCells (Value.agg #[.int .i64 0,.int .i64 0,.pointer none]).cells k).toList,by simp[Builtin.zeroCells,Value.cells],fun ty c=>?_⟩;have hl:(Builtin.zeroCells (Value.agg #[.int .i64 0,.int .i64 0,.pointer none]).cells k).toList.length=k *3:=by simp[Builtin.zeroCells,Value.cells]
 have h1:∀v∈(Builtin.zeroCells (Value.agg #[.int .i64 0,.int .i64 0,.pointer none]).cells k).toList,v.oneCell'=true:=fun v hv=>by
  simp only[Builtin.zeroCells,Value.cells,Array.mem_toList_iff,Array.mem_map]at hv;obtain⟨a,_,rfl⟩:=hv;have h5:a % 3 < 3:=bm_ _ (by omega);show Value.oneCell' ((#[.int .i64 0,.int .i64 0,.pointer none]:Array Value)[a % 3]!)=true
  generalize a % 3=b at *
  match b with
  |0=>rfl
  |1=>rfl
  |2=>rfl
  |b+3=>omega
 have hst:=run_storeCells_cells (P:=Tryz.prog) g o (Builtin.zeroCells (Value.agg #[.int .i64 0,.int .i64 0,.pointer none]).cells k).toList 0 w (by simpa [hl] using hc) (by simpa [hl] using hf) h1;simp only[bd_]at hst;have hz:(zeroValue 173).run Tryz.prog w=.ok (.agg #[.int .i64 0,.int .i64 0,.pointer none]) w:=by kernel_rfl
 cases k with
 |zero=>simp[Builtin.clear_,run_underlying Tryz.underlying141,Builtin.zeroCells,World.setCells]
 |succ k=>simp[Builtin.clear_,run_underlying Tryz.underlying141,hz,hst]
theorem lw4 (K:Nat) (hF:∀args w,(callFunc K args).run Tryz.prog w=.ok (.enter K args) w) (capt:Array Value) (P:Tq→Bool) (base:Nat) (A:Option Addr) (n c2 cap:Nat) (l:List Tq) (w:World) (hn:n≤1000000) (hc2:n≤c2) (hbase:base≤w.heap.size) (ho:w.ownsRow base 173 3 (.slice A n cap) n (hcells l))
  (hK:∀x w1,(∀F,(∀a,A=some a→F=[a.block])→Chg F w w1)→Calls Tryz.prog K (#[x.val] ++capt) w1 fun e w'=>e=.returned (.bool (P x))∧Below w1.heap.size w1 w'):
  Calls Tryz.prog 99 #[.slice A n c2,.func (.func K) #[] capt] w fun e w'=>∃k A',e=.returned (.slice A' k c2)∧k=(l.filter fun y=>!P y).length∧w'.ownsRow base 173 3 (.slice A' k cap) k (hcells (l.filter fun y=>!P y))∧Below base w w':=by
 have hidx:=pj4 K hF capt P A n c2 l w hn (Row.own ho) (fun x w1 hb=>hK x w1 (fun F _=>Chg.of_below hb F));have hln:l.length=n:=by have:=ho.1;rw[qy]at this;omega
 cases hany:l.any P with
 |false=>
  rw[zq hany]at hidx;have hfl:(l.filter fun y=>!P y)=l:=aS_.2 fun y hy=>by
   have:=(S_.1 hany) y hy;simpa using this
  have HF:=H_ hfl;have HO:=H_ ho;have HI:=H_ hidx;have HLN:=H_ hln;clear hidx hany hfl ho hK hln;go_enter Tryz.func99,Tryz.ntmps99;go_wp2_with fail;refine HI.out.mono ?_;rintro e w1 ⟨rfl,hb1⟩;go_wp2;go_ret;exact⟨n,A,rfl,by rw[HF.out];exact HLN.out.symm,by rw[HF.out];exact own_below HO.out hb1,hb1.mono hbase⟩
 |true=>
  rcases ho.2 with ⟨hv0,h0⟩|⟨g,cap',cur,hvv,hbg,hheap,hnc,hcm,hcs,htk⟩
  ·subst h0
   have:l=[]:=U_.1 hln;subst this
   cases hany
  injection hvv with hA _ hc;subst hA hc;have hB:BoxO w 173 g cur.toList:=by unfold BoxO;simpa using hheap
  have hcl:cur.toList.length=cap *3:=by simpa using hcs
  generalize cur.toList=cu at *;obtain⟨k0,hk0,hkl,hkP,hkf⟩:=dv3 hany;have hpre:=dx4 hany;rw[hkf]at hpre;rw[hk0]at hidx;have hP0:Hk cu cu cap k0 (k0+1) ((l.take (k0+1)).filter fun y=>!P y):=by
   rw[hpre];exact⟨hcl,by rw[dy3,←htk,aE_,aH_ (by omega)],rfl,by rw[u_];omega⟩
  have HI:=H_ hidx;have HP0:=H_ hP0;have HB:=H_ hB;have HF:=H_ hF;have HK:=H_ hK;have HTK:=H_ htk;have hkn:k0 < n:=by omega
  unfold maxLen at hcm;clear hidx hP0 hpre hany hkP hkf hk0 hF hK htk hheap ho hB;go_enter Tryz.func99,Tryz.ntmps99;go_wp2_with fail;refine HI.out.mono ?_;rintro e w1 ⟨rfl,hb1⟩;have hB1:=HB.out.below hb1;have hC1:Chg [g] w w1:=Chg.of_below hb1 [g];have e1:((k0:Int)==-1)=false:=by rw[beq_eq_false_iff_ne];omega
  have HB1:=H_ hB1;clear HI HB hB1 hb1;go_wp2_with fail
  go_loopw [5,6] (fun i j wr=>∃p q:Nat,p < q∧q≤n∧i=.int .i64 (p:Int)∧j=.int .i64 (q:Int)∧Hid (∃cs,BoxO wr 173 g cs∧Hk cu cs cap p q ((l.take q).filter fun y=>!P y))∧Chg [g] w wr) (fun i j _=>n - (intOf j).toNat)
  case atStart=>exact⟨k0,k0+1,by omega,by omega,rfl,by go_num,H_ ⟨cu,HB1.out,HP0.out⟩,hC1⟩
  case round=>
   obtain⟨p,q,hpq,hqn,rfl,rfl,HPK,hC⟩:=hrel;clear HB1 HP0 hC1 e1
   by_cases hlt:q < n
   ·obtain⟨cs,hbx,pk⟩:=HPK.out
    have hl:q < l.length:=by omega
    have hq:∀t v,t < 3→(l[q]).cells[t]?=some v→wr.cell? ⟨g,q *3+t,none⟩=some v:=fun t v ht hv=>by
     rw[hbx.cell,show cs[q *3+t]?=(cs.drop (q *3))[t]? by rw[an_],pk.post,an_,←hv,←qy3 l q t hl ht,←HTK.out,aI_,if_pos (by omega)]
    have hft:=dz2 (P:=fun y=>!P y) hl;generalize l[q]=y at *;have d0:=hq 0 _ (by omega) rfl;rw[bd_]at d0;have d1:=hq 1 _ (by omega) rfl;have d2:=hq 2 _ (by omega) rfl;have hC2:Chg [g] w (wr.alloc (.cells #[.int .i64 y.1.1.1,.int .i64 y.1.1.2,.pointer (some ⟨y.2,0,none⟩)] 173)):=hC.alloc _;have hk:=HK.out y (wr.alloc (.cells #[.int .i64 y.1.1.1,.int .i64 y.1.1.2,.pointer (some ⟨y.2,0,none⟩)] 173)) (fun F hF=>by rw[hF _ rfl];exact hC2);have hbn:=BoxO.new wr #[.int .i64 y.1.1.1,.int .i64 y.1.1.2,.pointer (some ⟨y.2,0,none⟩)] 173;have hbx2:=hbx.alloc (.cells #[.int .i64 y.1.1.1,.int .i64 y.1.1.2,.pointer (some ⟨y.2,0,none⟩)] 173);unfold Tq.val at hk;obtain⟨b,hb⟩:=n_ (P y);rw[←hb]at hk;have HFT:=H_ hft;have HB:=H_ hb;have HHk:=H_ pk;have HKK:=H_ hk;have hqi:(q:Int) < (n:Int):=by omega
    have hpi:(p:Int) < (n:Int):=by omega
    clear hft hb pk hk hq hbx HPK hl;go_wp2_with fail;rw[HF.out,Oper.upon_enter];refine HKK.out.mono ?_;rintro e w2 ⟨rfl,hb2⟩;have hbn2:=hbn.below hb2;have hbx3:=hbx2.below hb2;have hC3:Chg [g] w w2:=hC2.trans (Chg.of_below hb2 []) (fun g hg=>by cases hg);generalize wr.heap.size=bv at *
    cases b with
    |true=>
     have hpk2:Hk cu cs cap p (q+1) ((l.take (q+1)).filter fun y=>!P y):=by
      rw[HFT.out,←HB.out];simpa using HHk.out.skip
     have HPK2:=H_ hpk2;clear hpk2 d0 d1 d2 HKK hbn hbx2 hC2;go_wp2;go_roundw
     case rel=>exact⟨p,q+1,by omega,by omega,rfl,by go_num,H_ ⟨cs,hbx3,HPK2.out⟩,hC3⟩
     case measure=>simp[intOf];omega
    |false=>
     have hpk2:=HHk.out.keep hpq (by omega) y;have hpe:((l.take (q+1)).filter fun y=>!P y)=((l.take q).filter fun y=>!P y)++[y]:=by
      rw[HFT.out,←HB.out];rfl
     rw[←hpe]at hpk2;have hB4:=BoxO.stores y.cells (p *3) w2 cs hbx3 (by have:=HHk.out.len;rw[Tq.bz];omega);have hC4:=xw g y.cells (p *3) w w2 hC3;have hsome:∀t,t < 3→∃u,w2.cell? ⟨g,p *3+t,none⟩=some u:=fun t ht=>⟨cs[p *3+t]'(by have:=HHk.out.len;omega),by rw[hbx3.cell];exact j_ _⟩;obtain⟨u0,s0⟩:=hsome 0 (by omega);obtain⟨u1,s1⟩:=hsome 1 (by omega);obtain⟨u2,s2⟩:=hsome 2 (by omega);have z0:=hbx3.free (p *3);have z1:=hbx3.free (p *3+1);have z2:=hbx3.free (p *3+2);have b0:=hbn2.cell 0;have b1:=hbn2.cell 1;have b2:=hbn2.cell 2;simp only[gE0,gE1,bd_]at b0 b1 b2 s0;have HPK2:=H_ hpk2;have HB4:=H_ (d_ hB4 hC4);clear hpk2 hpe hB4 hC4 hsome d0 d1 d2 HKK hbn hbx2 hC2 hbn2 hbx3;go_wp2;go_roundw
     case rel=>exact⟨p+1,q+1,by omega,by omega,by go_num,by go_num,H_ ⟨_,HB4.out.1,HPK2.out⟩,HB4.out.2⟩
     case measure=>simp[intOf];omega
   ·obtain rfl:q=n:=by omega
    obtain⟨cs,hbx,pk⟩:=HPK.out;have hpl:=pk.pl;obtain⟨zs,hzl,hclr⟩:=bx2 wr g (p *3) (q - p) (fun j hj=>by rw[hbx.cell,j_ (by have:=pk.len;omega)];rfl) (fun j hj=>hbx.free _);obtain⟨W2,hW2⟩:=n_ (wr.setCells g (p *3) zs);have hB2:=BoxO.stores zs (p *3) wr cs hbx (by have:=pk.len;omega);have hC2:=xw g zs (p *3) w wr hC;rw[←hW2]at hB2 hC2;simp only[←hW2]at hclr;have hall:(l.take q).filter (fun y=>!P y)=l.filter (fun y=>!P y):=by rw[i_ (by omega)]
    rw[hall]at pk hpl;have hfin:W2.ownsRow base 173 3 (.slice (some ⟨g,0,none⟩) p cap) p (hcells (l.filter fun y=>!P y)):=by
     refine⟨by rw[qy,hpl],.inr ⟨g,cap,_,rfl,hbg,hB2,by omega,by unfold maxLen;omega,?_,?_⟩⟩
     ·have:=pk.len
      simp only[aj_,e_,u_,B_];omega
     ·rw[a6_,Q_ (by have:=pk.len;rw[u_];omega),aE_,Nat.min_self,pk.pre]
    have HFIN:=H_ (d_ hpl.symm (d_ hfin (hC2.below hbase (by simpa using hbg))));have hno:((q:Int) < (q:Int))=False:=eq_false (by omega);have hcp:¬(c2=p):=by omega
    have hpq2:(p:Int)≤(q:Int):=by omega
    have hpq3:p≤q:=by omega
    have hpc:p≤c2:=by omega
    have hpc2:(p:Int)≤(c2:Int):=by omega
    clear hbx pk hpl hzl hB2 hC2 hall hfin HPK hC hW2;go_wp2_with fail;go_ret;exact⟨p,_,rfl,HFIN.out⟩
end
section
open Go Go.RowKit Go.Lib Go.Shelf
variable {w w1 w2:World} {X X1 X2:Dw} {S S1 S2:Sd} {Y Y1 Y2:Yw} {V V1 V2:Sv}
theorem nq3 (x:Tq) (inn:List Int) (D:Option Addr) (dm dd g6:Nat) (w:World) (hdm:dm≤1000000) (hc:w.cell? ⟨g6,0,none⟩=some (.slice D dm dd)) (hr:Row w.heap.size w D dm 1 (vk inn)):
  Calls Tryz.prog 192 (#[x.val] ++#[.pointer (some ⟨g6,0,none⟩)]) w fun e w'=>e=.returned (.bool (decide (x.1.1.2∈inn)))∧Below w.heap.size w w':=by
 have hb0:=b_ w (.cells #[.int .i64 x.1.1.1,.int .i64 x.1.1.2,.pointer (some ⟨x.2,0,none⟩)] 173);have hc1:∀o,(w.alloc o).cell? ⟨g6,0,none⟩=some (.slice D dm dd):=fun o=>(af_ w o _ (V_ w _ hc)).trans hc;have HK:=H_ (my2 inn x.1.1.2 D dm dd hdm (w.alloc (.cells #[.int .i64 x.1.1.1,.int .i64 x.1.1.2,.pointer (some ⟨x.2,0,none⟩)] 173)) ((hr.below hb0).up hb0.size));unfold Tq.val;clear hr;go_enter Tryz.func192,Tryz.ntmps192;go_wp2_with fail;refine HK.out.mono ?_;rintro e w1 ⟨rfl,rfl⟩;go_wp2;go_ret;exact⟨rfl,hb0⟩
theorem SvAt.tset (h:SvAt w X S Y V) (T:Sl) (q:List Tq) (ts:List ((Int×Int)×List (List It))) (ht:qx (XY X Y) w fun w=>ex1 w T q ts):
  SvAt (w.setCell ⟨Y.s,4,none⟩ (.slice T.a T.n T.c)) X S { Y with T:=T,q:=q } { V with tabs:=ts }∧Chg [Y.s] w (w.setCell ⟨Y.s,4,none⟩ (.slice T.a T.n T.c))∧Chg (XY X Y) w (w.setCell ⟨Y.s,4,none⟩ (.slice T.a T.n T.c)):=by
 have c:Chg [Y.s] w (w.setCell ⟨Y.s,4,none⟩ (.slice T.a T.n T.c)):=(Chg.refl _ _).setCell _ (.inl (by simp));have hsx:Y.s∈Y.foot:=Yw.aj.2 (.inl rfl);have hc2:Chg (XY X Y) w (w.setCell ⟨Y.s,4,none⟩ (.slice T.a T.n T.c)):=c.mono fun g hg=>.inl (by
  rw[c_.1 hg];exact k_ _ hsx)
 have hm:∀g∈Y.m::Y.g::Y.mm::skF Y.L Y.ns,g∉[Y.s]:=fun g hg hmm=>h.apart.s (by rw[←c_.1 hmm];exact hg);exact⟨⟨h.dm.chg c (fun g hg=>by rw[c_.1 hg];exact⟨h.apart.x _ hsx,h.ng _ hsx⟩),h.box.store 4 (.slice T.a T.n T.c),h.man.chg c (hm _ m_),⟨(oq c h.row.row l_ (fun j hj a ha hmm=>h.pout j hj a ha (by rw[c_.1 hmm];exact hsx))).up c.size,h.row.nc,h.row.cm,h.row.nb,h.row.away⟩,h.pout,h.log.chg c (hm _ (f_ _ m_)),h.mem.chg c (fun g hg=>hm _ (f_ _ (f_ _ hg))),h.its,ht.step hc2 (fun g hg=>.inl hg),h.st.step hc2 (fun g hg=>.inl hg),⟨h.apart.x,h.apart.s,h.apart.m,h.apart.g⟩,h.ng⟩,c,hc2⟩
theorem dw3 (h:SvAt w X S Y V) (gt g5 g9:Nat) (T:Sl) (q:List Tq) (ts:List ((Int×Int)×List (List It))) (N:Option Addr) (nn nc:Nat) (next:List It) (bt:BoxO w 141 gt [.slice T.a T.n T.c]) (bs:BoxO w 51 g5 [.pointer (some ⟨Y.s,0,none⟩)]) (b9:BoxO w 31 g9 [.slice N nn nc])
  (n5:g5≠Y.s) (n9:g9≠Y.s) (ht:qx (XY X Y) w fun w=>ex1 w T q ts) (hx:qx (XY X Y) w fun w=>Its 0 w N nn nc next):
  Calls Tryz.prog 193 #[.pointer (some ⟨gt,0,none⟩),.pointer (some ⟨g5,0,none⟩),.pointer (some ⟨g9,0,none⟩)] w fun e w'=>e=.returned (.tuple #[])∧SvAt w' X S { Y with T:=T,q:=q,A:=⟨N,nn,nc⟩ } (St.mergeD ts next V)∧Chg (XY X Y) w w':=by
 obtain⟨h1,c1,c2⟩:=h.tset T q ts ht;have t0:=bt.cell 0;have s0:=bs.cell 0;have c4:=h.box.cell 4;have f4:=h.box.free 4;have s1:=(bs.chg c1 (by simpa using n5)).cell 0;have x1:=(b9.chg c1 (by simpa using n9)).cell 0;simp only[Yw.cells,gE0,gE1]at t0 s0 c4 s1 x1;have HST:=H_ (kk3 h1 N nn nc next (hx.step c2 (fun g hg=>.inl hg)));have HC:=H_ c2;clear h1 c1 c2 h bt bs b9 ht hx;go_enter Tryz.func193,Tryz.ntmps193;go_wp2_with fail;refine HST.out.mono ?_;rintro e w3 ⟨rfl,h3,c3⟩;have HF:Hid (SvAt w3 X S { Y with T:=T,q:=q,A:=⟨N,nn,nc⟩ } (St.mergeD ts next V)∧Chg (XY X Y) w w3):=H_ ⟨h3,HC.out.trans c3 (fun g hg=>.inl hg)⟩;clear h3 c3 HST HC;go_wp2;exact bodyPost_end (v:=.tuple #[]) (by simp[results,go_sem]) rfl ⟨rfl,HF.out⟩
theorem dx1 {W:World} {b s n g:Nat} {e e':TypeId} {v:Value} {xs ys:List Value} (h:W.ownsRow b e s v n xs) (k:BoxO W e' g ys) (hne:e≠e'):v.ownBlock≠some g:=by
 rcases h.2 with ⟨rfl,_⟩|⟨g1,cap,cur,rfl,_,hb,_⟩
 ·simp[Value.ownBlock]
 ·intro hg
  injection hg with hg;have hg:g1=g:=hg;subst hg;have k':W.heap[g1]?=some (.cells ys.toArray e' (0,0)):=k;rw[hb]at k';injection k' with k';injection k' with _ k' _;exact hne k'
theorem zk3 {W:World} {b s n b' s' n':Nat} {e e':TypeId} {v v':Value} {xs ys:List Value} (h:W.ownsRow b e s v n xs) (k:W.ownsRow b' e' s' v' n' ys) (hne:e≠e'):∀g,v'.ownBlock=some g→v.ownBlock≠some g:=by
 intro g hg
 rcases k.2 with ⟨rfl,_⟩|⟨g1,cap,cur,rfl,_,hb,_⟩
 ·simp[Value.ownBlock]at hg
 ·injection hg with hg
  have hg:g1=g:=hg;subst hg;exact dx1 h (show BoxO W e' g1 cur.toList by unfold BoxO;simpa using hb) hne
theorem aj1.own {W:World} {B b s n:Nat} {e:TypeId} {v:Value} {xs:List Value} (la:aj1 B W) (h:W.ownsRow b e s v n xs):v.ownBlock≠some B∧v.ownBlock≠some (B+1):=by
 obtain⟨h1,r,h2⟩:=la
 rcases h.2 with ⟨rfl,_⟩|⟨g1,cap,cur,rfl,_,hb,_⟩
 ·simp[Value.ownBlock]
 ·constructor
  all_goals
   intro hg;injection hg with hg;have hg:g1=_:=hg;subst hg
  ·rw[h1]at hb;cases hb
  ·rw[h2]at hb;cases hb
theorem aj1.box {W:World} {B g:Nat} {e:TypeId} {xs:List Value} (la:aj1 B W) (h:BoxO W e g xs):g≠B∧g≠B+1:=by
 obtain⟨h1,r,h2⟩:=la;unfold BoxO at h;constructor
 ·rintro rfl
  rw[h1]at h;cases h
 ·rintro rfl
  rw[h2]at h;cases h
def nx3 (B:Nat) (r:Loop) (W:World):Prop:=W.heap[B]?=some (.deferred (some []))∧W.heap[B+1]?=some (.loop r)
theorem nx3.at_ {B:Nat} {r:Loop} {W:World} (h:nx3 B r W):aj1 B W:=⟨h.1,r,h.2⟩
def blk (s:Sl):List Nat:=(Value.slice s.a s.n s.c).ownBlock.toList
theorem lq {s:Sl} {g:Nat}:g∈blk s↔(Value.slice s.a s.n s.c).ownBlock=some g:=a0_
def mgG (b gt LB:Nat) (F T:Sl):List Nat:=[b+4,b+5,gt,LB,LB+1] ++(blk F++blk T)
theorem iq {b gt LB g:Nat} {F T:Sl}:g∈mgG b gt LB F T↔g=b+4∨g=b+5∨g=gt∨g=LB∨g=LB+1∨g∈blk F∨g∈blk T:=by simp[mgG]
def Mg5 (b s gt:Nat) (D:Option Addr) (dm dd:Nat) (lev:Int) (N:Option Addr) (nn nc:Nat) (L:Option Addr) (lm lc:Nat) (q1:List Tq) (W:World):Prop:=
 (BoxO W 51 b [.pointer (some ⟨s,0,none⟩)]∧BoxO W 48 (b+1) [.slice D dm dd]∧BoxO W 3 (b+2) [.int .i64 lev]∧BoxO W 31 (b+3) [.slice N nn nc]∧BoxO W 31 (gt+1) [.slice L lm lc]∧BoxO W 3 (gt+2) [.int .i64 200])∧∀p∈q1,TbAt W p.2 p.1.2
structure MgK (w:World) (X:Dw) (Y:Yw) (V:Sv) (gt LB:Nat) (r:Loop) (D:Option Addr) (dm dd:Nat) (lev:Int) (N:Option Addr) (nn nc:Nat) (L:Option Addr) (lm lc:Nat) (q0:List Tq) (W:World) (X1:Dw) (S1:Sd) (F T:Sl) (adds:List (Int×Int)) (q1 qs:List Tq):Prop where
 way:Way w X Y V W X1 S1
 la:nx3 LB r W
 lo:w.heap.size+5 < gt∧gt < LB
 fix:qx (mgG w.heap.size gt LB F T++XY X1 Y) W (Mg5 w.heap.size Y.s gt D dm dd lev N nn nc L lm lc qs)
 bx:BoxO W 194 (w.heap.size+5) [.slice D dm dd,.slice F.a F.n F.c,.int .i64 0,.int .u64 0,.int .u64 0,.int .u64 0,.int .u64 0]
 bt:BoxO W 141 gt [.slice T.a T.n T.c]
 b4:BoxO W 26 (w.heap.size+4) [.int .i64 0]
 oa:W.ownsRow w.heap.size 170 2 (.slice F.a F.n F.c) F.n (ax adds)
 ot:W.ownsRow w.heap.size 173 3 (.slice T.a T.n T.c) T.n (hcells (q0++q1))
 no:∀g∈mgG w.heap.size gt LB F T,g∉XY X1 Y
variable {qs:List Tq} {r r2:Loop} {gt LB dm dd nn nc lm lc:Nat} {D N L:Option Addr} {lev:Int} {q0 q1:List Tq} {W W1 W2:World} {F T:Sl} {adds:List (Int×Int)}
theorem MgK.lt (k:MgK w X Y V gt LB r D dm dd lev N nn nc L lm lc q0 W X1 S1 F T adds q1 qs):∀g∈mgG w.heap.size gt LB F T,w.heap.size≤g∧g < W.heap.size:=by
 intro g hg;have h1:=k.lo;have h2:=k.la.at_.lt
 rcases iq.1 hg with rfl|rfl|rfl|rfl|rfl|q|q
 ·have:=k.bx.lt;omega
 ·have:=k.bx.lt;omega
 ·omega
 ·omega
 ·omega
 ·exact k.oa.lt g (lq.1 q)
 ·exact k.ot.lt g (lq.1 q)
theorem MgK.keep (k:MgK w X Y V gt LB r D dm dd lev N nn nc L lm lc q0 W X1 S1 F T adds q1 qs) {G:List Nat} (c:Chg G W W2) (hG:∀g∈G,g∈XY X1 Y) (hw:Way w X Y V W2 X2 S2) (hf:∀g∈XY X2 Y,g∈XY X1 Y∨W.heap.size≤g):MgK w X Y V gt LB r D dm dd lev N nn nc L lm lc q0 W2 X2 S2 F T adds q1 qs:=by
 have hm:∀{g},g∈mgG w.heap.size gt LB F T→g∉G:=fun hg hm=>k.no _ hg (hG _ hm);refine⟨hw,⟨(c.block _ (by have:=k.la.at_.lt;omega) (hm (iq.2 (by simp)))).trans k.la.1,(c.block _ k.la.at_.lt (hm (iq.2 (by simp)))).trans k.la.2⟩,k.lo,k.fix.step (c.mono fun g hg=>.inl (k_ _ (hG g hg))) (fun g hg=>?_),k.bx.chg c (hm (iq.2 (by simp))),k.bt.chg c (hm (iq.2 (by simp))),k.b4.chg c (hm (iq.2 (by simp))),jv k.oa c (fun g e=>hm (iq.2 (by simp[lq.2 e]))),jv k.ot c (fun g e=>hm (iq.2 (by simp[lq.2 e]))),fun g hg hx=>?_⟩
 ·rcases q_.1 hg with q|q
  ·exact .inl (s_ _ q)
  ·exact(hf g q).imp (k_ _) id
 ·rcases hf g hx with q|q
  ·exact k.no g hg q
  ·have:=(k.lt g hg).2
   omega
theorem MgK.below (k:MgK w X Y V gt LB r D dm dd lev N nn nc L lm lc q0 W X1 S1 F T adds q1 qs) (hb:Below W.heap.size W W2):MgK w X Y V gt LB r D dm dd lev N nn nc L lm lc q0 W2 X1 S1 F T adds q1 qs:=
 k.keep (G:=[]) (Chg.of_below hb []) (fun g hg=>by cases hg) (k.way.below hb) (fun g hg=>.inl hg)
theorem MgK.disk (k:MgK w X Y V gt LB r D dm dd lev N nn nc L lm lc q0 W X1 S1 F T adds q1 qs) (e:X2.d=X1.d) (hs:SvAt W2 X2 S2 Y V) (c:Chg (XY X1 Y) W W2) (f:∀g∈XY X2 Y,g∈XY X1 Y∨W.heap.size≤g):MgK w X Y V gt LB r D dm dd lev N nn nc L lm lc q0 W2 X2 S2 F T adds q1 qs:=
 k.keep c (fun g hg=>hg) ⟨hs,e.trans k.way.d,k.way.c.trans c k.way.f,fun g hg=>by
  rcases f g hg with q|q
  ·exact k.way.f g q
  ·exact .inr (h_ k.way.c.size q)⟩ f
theorem MgK.loop (h:SvAt w X S Y V) (k:MgK w X Y V gt LB r D dm dd lev N nn nc L lm lc q0 W X1 S1 F T adds q1 qs) (c:Chg [LB,LB+1] W W2) (hl:nx3 LB r2 W2):MgK w X Y V gt LB r2 D dm dd lev N nn nc L lm lc q0 W2 X1 S1 F T adds q1 qs:=by
 have h1:=k.lo;have hm:∀g∈[LB,LB+1],g∈mgG w.heap.size gt LB F T:=fun g hg=>iq.2 (by simp at hg;rcases hg with q|q<;>simp[q]);have o1:=k.la.at_.own k.oa;have o2:=k.la.at_.own k.ot;refine⟨Way.scr h k.way (fun g hg=>⟨(k.lt g (hm g hg)).1,k.no g (hm g hg)⟩) c,hl,k.lo,k.fix.step (c.mono fun g hg=>.inl (s_ _ (hm g hg))) (fun g hg=>.inl hg),k.bx.chg c (by simp;omega),k.bt.chg c (by simp;omega),k.b4.chg c (by simp;omega),jv k.oa c (fun g e=>?_),jv k.ot c (fun g e=>?_),k.no⟩
 all_goals
  intro hg;simp only[g_,ar_,or_false]at hg
 ·rcases hg with rfl|rfl
  ·exact o1.1 e
  ·exact o1.2 e
 ·rcases hg with rfl|rfl
  ·exact o2.1 e
  ·exact o2.2 e
theorem MgK.addF (h:SvAt w X S Y V) (k:MgK w X Y V gt LB r D dm dd lev N nn nc L lm lc q0 W X1 S1 F T adds q1 qs) {A:Option Addr} {n c:Nat} {ads:List (Int×Int)} (ho:W1.ownsRow w.heap.size 170 2 (.slice A n c) n (ax ads)) (hg:W.grownBy W1 (Value.slice F.a F.n F.c).ownBlock)
  (hk:(Value.slice A n c).ownBlock=(Value.slice F.a F.n F.c).ownBlock∨(Value.slice A n c).ownBlock=some W.heap.size):MgK w X Y V gt LB r D dm dd lev N nn nc L lm lc q0 (W1.setCell ⟨w.heap.size+5,1,none⟩ (.slice A n c)) X1 S1 ⟨A,n,c⟩ T ads q1 qs:=by
 have c1:Chg (blk F) W W1:=Chg.pz hg fun b e=>lq.2 e;have hlo:=k.lo;have b1:=dx1 k.oa k.bx (by decide);have b2:=dx1 k.oa k.bt (by decide);have hx1:=k.bx.chg c1 (fun hm=>b1 (lq.1 hm));have b3:=dx1 ho hx1 (by decide);have c2:Chg [w.heap.size+5] W1 (W1.setCell ⟨w.heap.size+5,1,none⟩ (.slice A n c)):=(Chg.refl _ _).setCell _ (.inl (by simp));have cc:Chg ([w.heap.size+5] ++blk F) W (W1.setCell ⟨w.heap.size+5,1,none⟩ (.slice A n c)):=(c1.mono fun g hg=>.inl (k_ _ hg)).trans c2 fun g hg=>.inl (s_ _ hg);have hm:∀g∈[w.heap.size+5] ++blk F,g∈mgG w.heap.size gt LB F T:=fun g hg=>iq.2 (by
  rcases q_.1 hg with q|q
  ·exact .inr (.inl (c_.1 q))
  ·simp[q])
 have o1:=k.la.at_.own k.oa;have o2:=zk3 k.oa k.ot (by decide);have hn:∀g,g∈blk (⟨A,n,c⟩:Sl)→g∈blk F∨g=W.heap.size:=fun g hg=>by
  have e:=lq.1 hg
  rcases hk with q|q
  ·exact .inl (lq.2 (q.symm.trans e))
  ·exact .inr (by rw[q]at e;injection e with e;exact e.symm)
 have hxl:=k.way.at_.lt;have hG:∀{g},g∈mgG w.heap.size gt LB ⟨A,n,c⟩ T→g∈mgG w.heap.size gt LB F T∨g=W.heap.size:=fun hg=>by
  rcases iq.1 hg with q|q|q|q|q|q|q
  ·exact .inl (iq.2 (.inl q))
  ·exact .inl (iq.2 (.inr (.inl q)))
  ·exact .inl (iq.2 (.inr (.inr (.inl q))))
  ·exact .inl (iq.2 (.inr (.inr (.inr (.inl q)))))
  ·exact .inl (iq.2 (.inr (.inr (.inr (.inr (.inl q))))))
  ·exact(hn _ q).imp (fun q=>iq.2 (.inr (.inr (.inr (.inr (.inr (.inl q))))))) id
  ·exact .inl (iq.2 (.inr (.inr (.inr (.inr (.inr (.inr q)))))))
 have hot:∀g,g∉[w.heap.size+5]→g∉blk F→g∉[w.heap.size+5] ++blk F:=fun g h1 h2 hm=>(q_.1 hm).elim h1 h2;have hll:=k.la.at_.lt;refine⟨Way.scr h k.way (fun g hg=>⟨(k.lt g (hm g hg)).1,k.no g (hm g hg)⟩) cc,⟨(cc.block _ (by omega) (hot _ (by simp;omega) fun hm=>o1.1 (lq.1 hm))).trans k.la.1,(cc.block _ hll (hot _ (by simp;omega) fun hm=>o1.2 (lq.1 hm))).trans k.la.2⟩,hlo,k.fix.step (cc.mono fun g hg=>.inl (s_ _ (hm g hg))) (fun g hg=>?_),?_,k.bt.chg cc (hot _ (by simp;omega) fun hm=>b2 (lq.1 hm)),k.b4.chg cc (hot _ (by simp) fun hm=>dx1 k.oa k.b4 (by decide) (lq.1 hm)),jv ho c2 (fun g e hmm=>b3 (by rw[e,c_.1 hmm])),jv k.ot cc (fun g e=>hot _ (fun hmm=>dx1 k.ot k.bx (by decide) (by rw[e,c_.1 hmm])) fun hmm=>o2 g e (lq.1 hmm)),fun g hg=>?_⟩
 ·rcases q_.1 hg with q|q
  ·rcases hG q with q|q
   ·exact .inl (s_ _ q)
   ·exact .inr (by omega)
  ·exact .inl (k_ _ q)
 ·exact hx1.store 1 (.slice A n c)
 ·rcases hG hg with q|q
  ·exact k.no g q
  ·intro hm
   have:=hxl g hm;omega
theorem MgK.tab (k:MgK w X Y V gt LB r D dm dd lev N nn nc L lm lc q0 W X1 S1 F T adds q1 qs) {x:Tq} (hx:qx (mgG w.heap.size gt LB F T++XY X1 Y) W fun W=>TbAt W x.2 x.1.2):MgK w X Y V gt LB r D dm dd lev N nn nc L lm lc q0 W X1 S1 F T adds q1 (qs++[x]):=
 { k with fix:=(k.fix.and hx).mono fun W' hq=>⟨hq.1.1,fun p hp=>by
  rcases q_.1 hp with q|q
  ·exact hq.1.2 p q
  ·rw[c_.1 q]
   exact hq.2⟩ }
theorem MgK.addT (h:SvAt w X S Y V) (k:MgK w X Y V gt LB r D dm dd lev N nn nc L lm lc q0 W X1 S1 F T adds q1 qs) {A:Option Addr} {n c:Nat} {x:Tq} (ho:W1.ownsRow w.heap.size 173 3 (.slice A n c) n (hcells (q0++(q1++[x])))) (hg:W.grownBy W1 (Value.slice T.a T.n T.c).ownBlock)
  (hk:(Value.slice A n c).ownBlock=(Value.slice T.a T.n T.c).ownBlock∨(Value.slice A n c).ownBlock=some W.heap.size):MgK w X Y V gt LB r D dm dd lev N nn nc L lm lc q0 (W1.setCell ⟨gt,0,none⟩ (.slice A n c)) X1 S1 F ⟨A,n,c⟩ adds (q1++[x]) qs:=by
 have c1:Chg (blk T) W W1:=Chg.pz hg fun b e=>lq.2 e;have hlo:=k.lo;have b1:=dx1 k.ot k.bx (by decide);have b2:=dx1 k.ot k.bt (by decide);have hx1:=k.bt.chg c1 (fun hm=>b2 (lq.1 hm));have b3:=dx1 ho hx1 (by decide);have c2:Chg [gt] W1 (W1.setCell ⟨gt,0,none⟩ (.slice A n c)):=(Chg.refl _ _).setCell _ (.inl (by simp));have cc:Chg ([gt] ++blk T) W (W1.setCell ⟨gt,0,none⟩ (.slice A n c)):=(c1.mono fun g hg=>.inl (k_ _ hg)).trans c2 fun g hg=>.inl (s_ _ hg);have hm:∀g∈[gt] ++blk T,g∈mgG w.heap.size gt LB F T:=fun g hg=>iq.2 (by
  rcases q_.1 hg with q|q
  ·exact .inr (.inr (.inl (c_.1 q)))
  ·simp[q])
 have o1:=k.la.at_.own k.ot;have o2:=zk3 k.ot k.oa (by decide);have hn:∀g,g∈blk (⟨A,n,c⟩:Sl)→g∈blk T∨g=W.heap.size:=fun g hg=>by
  have e:=lq.1 hg
  rcases hk with q|q
  ·exact .inl (lq.2 (q.symm.trans e))
  ·exact .inr (by rw[q]at e;injection e with e;exact e.symm)
 have hxl:=k.way.at_.lt;have hG:∀{g},g∈mgG w.heap.size gt LB F ⟨A,n,c⟩→g∈mgG w.heap.size gt LB F T∨g=W.heap.size:=fun hg=>by
  rcases iq.1 hg with q|q|q|q|q|q|q
  ·exact .inl (iq.2 (.inl q))
  ·exact .inl (iq.2 (.inr (.inl q)))
  ·exact .inl (iq.2 (.inr (.inr (.inl q))))
  ·exact .inl (iq.2 (.inr (.inr (.inr (.inl q)))))
  ·exact .inl (iq.2 (.inr (.inr (.inr (.inr (.inl q))))))
  ·exact .inl (iq.2 (.inr (.inr (.inr (.inr (.inr (.inl q)))))))
  ·exact(hn _ q).imp (fun q=>iq.2 (.inr (.inr (.inr (.inr (.inr (.inr q))))))) id
 have hot:∀g,g∉[gt]→g∉blk T→g∉[gt] ++blk T:=fun g h1 h2 hm=>(q_.1 hm).elim h1 h2;have hll:=k.la.at_.lt;refine⟨Way.scr h k.way (fun g hg=>⟨(k.lt g (hm g hg)).1,k.no g (hm g hg)⟩) cc,⟨(cc.block _ (by omega) (hot _ (by simp;omega) fun hm=>o1.1 (lq.1 hm))).trans k.la.1,(cc.block _ hll (hot _ (by simp;omega) fun hm=>o1.2 (lq.1 hm))).trans k.la.2⟩,hlo,k.fix.step (cc.mono fun g hg=>.inl (s_ _ (hm g hg))) (fun g hg=>?_),k.bx.chg cc (hot _ (by simp;omega) fun hm=>b1 (lq.1 hm)),hx1.store 0 (.slice A n c),k.b4.chg cc (hot _ (by simp;omega) fun hm=>dx1 k.ot k.b4 (by decide) (lq.1 hm)),jv k.oa cc (fun g e=>hot _ (fun hmm=>dx1 k.oa k.bt (by decide) (by rw[e,c_.1 hmm])) fun hmm=>o2 g e (lq.1 hmm)),jv ho c2 (fun g e hmm=>b3 (by rw[e,c_.1 hmm])),fun g hg=>?_⟩
 ·rcases q_.1 hg with q|q
  ·rcases hG q with q|q
   ·exact .inl (s_ _ q)
   ·exact .inr (by omega)
  ·exact .inl (k_ _ q)
 ·rcases hG hg with q|q
  ·exact k.no g q
  ·intro hm
   have:=hxl g hm;omega
structure MgE (w:World) (X:Dw) (Y:Yw) (LB:Nat) (D:Option Addr) (dm dd:Nat) (W:World) (S1:Sd) (V1:Sv) (X1:Dw) (Y1:Yw):Prop where
 d:X1.d=X.d
 s:Y1.s=Y.s
 at_:SvAt W X1 S1 Y1 V1
 c:Chg (XY X Y) w W
 f:∀g∈XY X1 Y1,g∈XY X Y∨w.heap.size≤g
 no:w.heap.size+4∉XY X1 Y1∧LB∉XY X1 Y1
 lb:w.heap.size+4 < LB
 tb:qx ((w.heap.size+4)::LB::XY X1 Y1) W fun W=>ex1 W Y1.T Y1.q V1.tabs
 st:qx ((w.heap.size+4)::LB::XY X1 Y1) W fun W=>Its 0 W Y1.A.a Y1.A.n Y1.A.c V1.st
 pb:∀j,j < (ax V1.M.v.files).length→∀a,Y1.P.a=some a→a.block≠w.heap.size+4∧a.block≠LB
 bx:qx (XY X1 Y1) W fun W=>BoxO W 51 w.heap.size [.pointer (some ⟨Y.s,0,none⟩)]∧BoxO W 48 (w.heap.size+1) [.slice D dm dd]∧BoxO W 26 (w.heap.size+4) [.int .i64 0]∧W.heap[LB]?=some (.deferred (some []))
theorem MgE.below (k:MgE w X Y LB D dm dd W S1 V1 X1 Y1) (hb:Below W.heap.size W W2):MgE w X Y LB D dm dd W2 S1 V1 X1 Y1:=
 ⟨k.d,k.s,k.at_.below hb,k.c.trans (Chg.of_below hb []) (fun g hg=>by cases hg),k.f,k.no,k.lb,k.tb.below hb,k.st.below hb,k.pb,k.bx.below hb⟩
theorem MgE.disk (k:MgE w X Y LB D dm dd W S1 V1 X1 Y1) (hu:UpdM X1 W W2 S2):∃X2,MgE w X Y LB D dm dd W2 S2 V1 X2 Y1:=by
 obtain⟨X2,e,h1,c1,f1⟩:=k.at_.disk hu;have hb:=k.bx.now;have l4:=hb.2.2.1.lt;have l5:=(w_.1 hb.2.2.2).1;have hG:∀g∈(w.heap.size+4)::LB::XY X2 Y1,g∈(w.heap.size+4)::LB::XY X1 Y1∨W.heap.size≤g:=fun g hg=>by
  rcases g_.1 hg with q|q
  ·exact .inl (by rw[q];exact m_)
  ·rcases g_.1 q with q|q
   ·exact .inl (by rw[q];exact f_ _ m_)
   ·exact(f1 g q).imp (fun q=>f_ _ (f_ _ q)) id
 have hc:Chg ((w.heap.size+4)::LB::XY X1 Y1) W W2:=c1.mono fun g hg=>.inl (f_ _ (f_ _ hg));exact⟨X2,e.trans k.d,k.s,h1,k.c.trans c1 k.f,fun g hg=>by
  rcases f1 g hg with q|q
  ·exact k.f g q
  ·exact .inr (h_ k.c.size q),⟨fun hm=>(f1 _ hm).elim k.no.1 (by omega),fun hm=>(f1 _ hm).elim k.no.2 (by omega)⟩,k.lb,k.tb.step hc hG,k.st.step hc hG,k.pb,k.bx.step c1 f1⟩
theorem MgE.post (h0:SvAt w X S Y V) (k:MgE w X Y LB D dm dd W S1 V1 X1 Y1) (v:Value):rq1 X Y w ((W.setCell ⟨w.heap.size+4,0,none⟩ v).putObj LB (.deferred none)) S1 V1∧((W.setCell ⟨w.heap.size+4,0,none⟩ v).putObj LB (.deferred none)).cell? ⟨w.heap.size+4,0,none⟩=some v:=by
 have hb:=k.bx.now;have l5:=(w_.1 hb.2.2.2).1;have hlb:=k.lb;have c1:Chg [w.heap.size+4,LB] W (W.setCell ⟨w.heap.size+4,0,none⟩ v):=(Chg.refl _ _).setCell _ (.inl (by simp));have c2:Chg [w.heap.size+4,LB] (W.setCell ⟨w.heap.size+4,0,none⟩ v) ((W.setCell ⟨w.heap.size+4,0,none⟩ v).putObj LB (.deferred none)):=⟨rfl,rfl,rfl,by simp,fun g _ hg=>I_ (fun e=>hg (by simp[e]))⟩;have cc:=c1.trans c2 (fun g hg=>.inl hg);have hn:∀g∈[w.heap.size+4,LB],g∉XY X1 Y1∧NG≤g∧w.heap.size≤g:=fun g hg=>by
  have:=h0.dm.env.base
  rcases g_.1 hg with q|q
  ·rw[q]
   exact⟨k.no.1,by omega,by omega⟩
  ·rw[c_.1 q]
   exact⟨k.no.2,by omega,by omega⟩
 have hny:∀g∈Y1.foot,g∉[w.heap.size+4,LB]:=fun g h1 h2=>(hn g h2).1 (k_ _ h1);have hg4:∀{g},g∈(w.heap.size+4)::LB::XY X1 Y1∨W.heap.size≤g→g∈(w.heap.size+4)::LB::XY X1 Y1∨W.heap.size≤g:=id;have ccg:Chg ((w.heap.size+4)::LB::XY X1 Y1) W ((W.setCell ⟨w.heap.size+4,0,none⟩ v).putObj LB (.deferred none)):=cc.mono fun g hg=>.inl (by
  rcases g_.1 hg with q|q
  ·rw[q];exact m_
  ·rw[c_.1 q];exact f_ _ m_)
 have hsub:∀g∈XY X1 Y1,g∈(w.heap.size+4)::LB::XY X1 Y1∨W.heap.size≤g:=fun g hg=>.inl (f_ _ (f_ _ hg));have h:=k.at_;refine⟨⟨X1,Y1,k.d,k.s,⟨h.dm.chg cc (fun g hg=>⟨fun hm=>(hn g hg).1 (s_ _ hm),(hn g hg).2.1⟩),h.box.chg cc (hny _ (Yw.aj.2 (.inl rfl))),h.man.chg cc (hny _ (Yw.aj.2 (.inr (.inl rfl)))),⟨(oq cc h.row.row l_ (fun j hj a ha hm=>?_)).up cc.size,h.row.nc,h.row.cm,h.row.nb,h.row.away⟩,h.pout,h.log.chg cc (hny _ (Yw.aj.2 (.inr (.inr (.inl rfl))))),h.mem.chg cc (fun g hg=>hny g (Yw.aj.2 ?_)),h.its,k.tb.step ccg hsub,k.st.step ccg hsub,h.apart,h.ng⟩,k.c.trans cc (fun g hg=>.inr (hn g hg).2.2),k.f⟩,?_⟩
 ·have:=k.pb j hj a ha
  simp only[g_,ar_,or_false]at hm;omega
 ·rcases g_.1 hg with rfl|hg
  ·exact .inr (.inr (.inr (.inl rfl)))
  ·exact .inr (.inr (.inr (.inr hg)))
 ·exact(W_ (I_ (by simp;omega))).trans (aF_ W ⟨w.heap.size+4,0,none⟩ v (hb.2.2.1.cell 0))
theorem qx1 {P:Program} {F:Fence} {nF:Nat} {ops:Array Oper} {rest:List Oper} {o:Oper} {a:Act} {w:World} {Q:Exit→Act→World→Prop} (hgd:o.guard=none) (s x:Operand) (t:TypeId)
  (ho:o.op=.call { callee:=.builtin .append,args:=#[s,x],argTypes:=#[t,t] })
  (base:Nat) (e:TypeId) (i:TypeInfo) (z:Value) (size bytes:Nat) (ht:P.underlying t=some (.slice e)) (hi:P.info? e=some i) (hz:i.zero=some z)
  (hsize:i.size=size) (hby:i.bytes=bytes) (hzs:z.cells.size=size) (hsz:0 < size) (hbase:base≤w.heap.size) (v:Value) (n:Nat) (xs:List Value) (hs:a.eval s=v) (hown:w.ownsRow base e size v n xs)
  (B:Nat) (A:Option Addr) (m c:Nat) (news:List Value) (hx:a.eval x=.slice A m c) (hr:Row B w A m size news) (h1:∀u∈news,u.oneCell'=true)
  (N:Nat) (X:List Value) (hN:n+m=N) (hX:xs++news=X) (h63:N≤maxLen) (hbytes:N *bytes≤140737488355328)
  (h:∀A' c' w',w'.ownsRow base e size (.slice A' N c') N X→w.grownBy w' v.ownBlock→N≤c'→c'≤maxLen→((Value.slice A' N c').ownBlock=v.ownBlock∨(Value.slice A' N c').ownBlock=some w.heap.size)→wpListIn F nF P ops Q rest (a.put o.dst (.slice A' N c')) w'):
  wpListIn F nF P ops Q (o::rest) a w:=by
 refine wpListIn_plain hgd fun K hK=>?_;have:=jk1 (F:=F) (nF:=nF) (ops:=ops) (Q:=Q) (E:=True) (K:=K) hgd s x t ho base e i z size bytes ht hi hz hsize hby hzs hsz hbase v n xs hs hown B A m c news hx hr h1 N X hN hX h63 hbytes fun A' c' w' h2 h3 h4 h5 h6=>hK _ _ (h A' c' w' h2 h3 h4 h5 h6)
 rwa [if_pos (by simp[Region.wanted,hgd])]at this
theorem ux3 {m len B:Nat} {w:World} {p:Addr} {l:List It} (hr:Row B w (some p) len 5 (itc l)) (x:Ck m len):Row B w (some (p.add (x.1 *m *5))) x.len 5 (itc (Ck.of l x)):=by
 have hx:=x.2;have hx3:x.1 *m+x.len≤len:=by unfold Ck.len;omega
 have h2:=hr.cut (k:=x.1 *m) (m:=x.1 *m+x.len) (A':=some (p.add (x.1 *m *5))) (by omega) hx3 (fun _=>rfl);rw[show x.1 *m+x.len - x.1 *m=x.len from by omega]at h2;rw[show itc (Ck.of l x)=((itc l).drop (x.1 *m *5)).take (x.len *5) from by unfold Ck.of;rw[bz1,kw1];exact av4 l (x.1 *m) m hr.uz];exact h2
end
end Go.Proofs.YthjdpplgfdihoaaGreatDoor
