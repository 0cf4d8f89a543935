/- Some of the texts. No conditions. -/
import Derived.Test.YtkdbagdiplpcfaaGreatDoorBunAU

set_option linter.unusedSimpArgs false
set_option linter.unusedVariables false
set_option maxRecDepth 100000
set_option maxHeartbeats 16000000
namespace Go.Proofs.YtkdbagdiplpcfaaGreatDoor
open Go.Proofs.Tryz Go Go.RowKit Go.Lib Go.Shelf
theorem sv4:(prog.info? 3).map (fun i=>(i.zero,i.size,i.bytes))=some (some (.int .i64 0),1,8):=by kernel_rfl
theorem oq3 {B n:Nat} {w:World} {A:Option Addr} {q:List Tq} (h:Row B w A n 3 (hcells q)) {k:Nat} (I:k < q.length):
  ∃a,A=some a/\a.block < B/\w.cell? (a.add (k *3))=some (.int .i64 q[k].1.1.1)/\w.cell? ⟨(a.add (k *3)).block,(a.add (k *3)).off+1,none⟩=some (.int .i64 q[k].1.1.2)/\w.cell? ⟨(a.add (k *3)).block,(a.add (k *3)).off+2,none⟩=some (.pointer (some ⟨q[k].2,0,none⟩)):=by
 have C:=fun j (hj:j < 3)=>nx1 (fun p:Tq=>[Value.int .i64 p.1.1.1,.int .i64 p.1.1.2,.pointer (some ⟨p.2,0,none⟩)]) 3 (fun _=>rfl) q k j I hj;obtain⟨a,rfl,J,O⟩:=kx1 h (C 0 o_);have H:∀j v,0 < j->j < 3->[Value.int .i64 q[k].1.1.1,.int .i64 q[k].1.1.2,.pointer (some ⟨q[k].2,0,none⟩)][j]?=some v->w.cell? ⟨(a.add (k *3)).block,(a.add (k *3)).off+j,none⟩=some v:=fun j v Q hj U=>by
  obtain⟨a',E,_,Z⟩:=kx1 h ((C j hj).trans U);injection E with E;subst E;rw[<-gy2 a (k *3) Q];exact Z
 exact⟨a,rfl,J,O,H 1 _ o_ o_ rfl,H 2 _ o_ o_ rfl⟩
theorem ox2 (s n c:Nat) (A:Option Addr) (q:List Tq) (w:World) (d3:w.cell? ⟨s,4,none⟩=some (.slice A n c)) (hr:Row w.heap.size w A n 3 (hcells q)) (hn:n<=100000):
  Calls prog 26 #[.pointer (some ⟨s,0,none⟩)] w fun e w'=>∃A' k c',e=.returned (.slice A' k c')/\k=q.length/\w'.ownsRow w.heap.size 3 1 (.slice A' k c') k (q.map fun p=>.int .i64 p.1.1.2)/\Below w.heap.size w w':=by
 obtain⟨i0,b1,b2,b3,b5⟩:=info_parts sv4;have b6:q.length=n:=by have:=hr.len;rw[tq]at this;omega
 have HR:=H_ hr;clear hr;go_enter func26,ntmps26;go_wp2
 go_loopw [3,11] (fun o i wr=>∃(k:Nat) (A2:Option Addr) (c2:Nat),k<=n/\o=.slice A2 k c2/\i=.int .i64 (k:Int)/\Hid (wr.ownsRow w.heap.size 3 1 (.slice A2 k c2) k ((q.take k).map fun p=>.int .i64 p.1.1.2))/\Below w.heap.size w wr) (fun _ i _=>n - (intOf i).toNat)
 case atStart=>exact⟨0,none,0,w_ _,rfl,rfl,H_ (E_ _ _ _ _),Below.refl _ _⟩
 case round=>
  obtain⟨k,A2,c2,hk,rfl,rfl,HQ,C⟩:=hrel
  by_cases d6:k < n
  ·have Q:k < q.length:=o_
   have b7:(k:Int) < (n:Int):=o_
   obtain⟨a,rfl,b8,Z,a0,a1⟩:=oq3 HR.out Q;have a2:q.take (k+1)=q.take k++[q[k]]:=by rw[r_ Q]
   generalize q[k]=p at *;have E:(a.add (k *3)).block < w.heap.size:=by rw[add_block];exact b8
   have c0:=(C.cell (p:=a.add (k *3)) E).trans Z;have c1:=(C.cell (p:=⟨(a.add (k *3)).block,(a.add (k *3)).off+1,none⟩) E).trans a0;have d7:=(C.cell (p:=⟨(a.add (k *3)).block,(a.add (k *3)).off+2,none⟩) E).trans a1;have I:=b_ wr (.cells #[.int .i64 p.1.1.1,.int .i64 p.1.1.2,.pointer (some ⟨p.2,0,none⟩)] 92);obtain⟨U,hU⟩:=n_ (wr.alloc (.cells #[.int .i64 p.1.1.1,.int .i64 p.1.1.2,.pointer (some ⟨p.2,0,none⟩)] 92));have b9:BoxO U 92 wr.heap.size [.int .i64 p.1.1.1,.int .i64 p.1.1.2,.pointer (some ⟨p.2,0,none⟩)]:=by rw[hU];exact BoxO.new wr #[.int .i64 p.1.1.1,.int .i64 p.1.1.2,.pointer (some ⟨p.2,0,none⟩)] 92
   rw[<-hU]at I;have a4:U.heap.size=wr.heap.size+1:=by rw[hU,Q_]
   have O:=b_ U (.cells #[.int .i64 p.1.1.2] 3);have a5:=az (az C I) O;have a6:=own_below (own_below HQ.out I) O;have H:Row (U.alloc (.cells #[.int .i64 p.1.1.2] 3)).heap.size (U.alloc (.cells #[.int .i64 p.1.1.2] 3)) (some ⟨wr.heap.size+1,0,none⟩) 1 1 [.int .i64 p.1.1.2]:=a4▸(Row.new U #[.int .i64 p.1.1.2] 3 (n:=1) (size:=1) rfl).up s_;have a7:=H_ H;have a8:=H_ a6;have HB:=H_ a5;have HT:=H_ (show ((q.take k).map fun p=>Value.int .i64 p.1.1.2)++[.int .i64 p.1.1.2]=(q.take (k+1)).map fun p=>.int .i64 p.1.1.2 by rw[a2,am_];rfl);subst hU;clear H O a5 a6 a2 I b9 a4 Z a0 a1 HQ;go_wp2_with (at_builtin;refine iy ?_);refine bz (iq rfl (.tmp 15) (.tmp 19) _ rfl w.heap.size 3 i0 _ 1 8 underlying30 b1 b2 b3 b5 rfl o_ w HB.out HB.out.size _ k _ rfl a8.out _ _ 1 1 [.int .i64 p.1.1.2] rfl a7.out (fun v hv=>by simp only[a_]at hv;rw[hv];rfl) (k+1) _ rfl HT.out (by unfold maxLen;omega) o_ ?_);intro A3 c3 w5 z1 z2 z3 z4 z5;have HN:=H_ z1;clear z1 z3 z4 z5 a7 a8 HB;go_wp2;go_roundw
   case rel=>exact⟨k+1,A3,c3,o_,rfl,by go_num,HN,z2⟩
   case measure=>simp[intOf];omega
  ·obtain rfl:k=n:=o_
   have b7:((k:Int) < (k:Int))=False:=eq_false o_;have J:q.take k=q:=g_ o_;have hq:=HQ.out;rw[J]at hq;have HF:=H_ hq;clear hq J HQ;go_wp2;go_ret;exact⟨A2,k,c2,rfl,b6.symm,HF.out,C⟩
theorem dq4 (l:List Int) (x:Int) (A:Option Addr) (n c:Nat) (hn:n<=1000000) (w:World) (h:Row w.heap.size w A n 1 (uw l)):
  Calls prog 91 #[.slice A n c,.int .i64 x] w fun e w'=>(∃r:Int,e=.returned (.int .i64 r)/\(0<=r↔x∈l))/\w=w':=by
 have C:=h.len;unfold uw at C;rw[F_]at C;have J:=H_ C;clear C;go_enter func91,ntmps91;go_wp2
 go_loop [8] (fun i=>∃k:Nat,k<=n/\i=.int .i64 (k:Int)/\Hid (∀j,j < k->l[j]?≠some x)) (fun i=>n - (intOf i).toNat)
 case atStart=>exact⟨0,w_ _,rfl,H_ (fun j hj=>absurd hj (Nat.not_lt_zero _))⟩
 case round=>
  obtain⟨k,hk,rfl,I⟩:=hrel
  by_cases H:k < n
  ·obtain⟨a,O,rfl,Q,hc⟩:=h.int_ H
   have F:=H_ (h_ O);generalize l[k]=y at *
   by_cases E:x=y
   ·subst E
    go_wp2;go_ret;refine⟨⟨(k:Int),rfl,⟨fun _=>t_ F.out,fun _=>o_⟩⟩,rfl⟩
   ·have U:(x==y)=false:=beq_eq_false_iff_ne.2 E
    have Z:=H_ E;clear E;go_wp2
    go_round
    case rel=>
     refine⟨k+1,H,by go_num,H_ fun j hj=>?_⟩
     rcases ah_ j k with h1|h1
     ·exact I.out j h1
     ·obtain rfl:j=k:=o_
      rw[F.out];intro e;injection e with e;exact Z.out e.symm
    case measure=>simp[intOf];omega
  ·obtain rfl:k=n:=o_
   go_wp2;go_ret;refine⟨⟨-1,rfl,⟨fun h=>o_,fun hm=>?_⟩⟩,rfl⟩;obtain⟨j,hj,e⟩:=bE_.1 hm;exact absurd (by rw[h_ hj,e]) (I.out j (by rw[J.out]at hj;omega))
theorem sw1 (l:List Int) (x:Int) (A:Option Addr) (n c:Nat) (O:n<=1000000) (w:World) (h:Row w.heap.size w A n 1 (uw l)):
  Calls prog 30 #[.slice A n c,.int .i64 x] w fun e w'=>e=.returned (.bool (decide (x∈l)))/\w=w':=by
 have E:=H_ (dq4 l x A n c O w h)
 by_cases H:x∈l
 all_goals
  have C:=H_ H;clear H;go_enter func30,ntmps30;go_wp2_with fail;refine E.out.mono ?_;rintro e Q ⟨⟨r,rfl,I⟩,rfl⟩;have J:decide (0<=r)=decide (x∈l):=decide_eq_decide.2 I
  first|rw[decide_eq_true C.out]at J|rw[decide_eq_false C.out]at J
  clear I E;go_wp2;go_ret;exact⟨kk1 (by first|rw[decide_eq_true C.out]|rw[decide_eq_false C.out]),rfl⟩
def Tq.cells (x:Tq):List Value:=[.int .i64 x.1.1.1,.int .i64 x.1.1.2,.pointer (some ⟨x.2,0,none⟩)]
def Tq.val (x:Tq):Value:=.agg #[.int .i64 x.1.1.1,.int .i64 x.1.1.2,.pointer (some ⟨x.2,0,none⟩)]
theorem tq2 (a b:List Tq):hcells (a++b)=hcells a++hcells b:=a8_
theorem ok3 (q:List Tq):∀k,hcells (q.take k)=(hcells q).take (k *3):=by
 induction q with
 |nil=>intro k;simp[hcells]
 |cons a q C=>
  intro k
  cases k with
  |zero=>simp[hcells]
  |succ k=>
   have h1:hcells (a::q)=a.cells++hcells q:=rfl;have h2:hcells ((a::q).take (k+1))=a.cells++hcells (q.take k):=rfl;rw[h1,h2,show (k+1)*3=a.cells.length+k *3 by simp[Tq.cells];omega,List.take_length_add_append,C]
theorem zw3 (q:List Tq) (k t:Nat) (C:k < q.length) (E:t < 3):(hcells q)[k *3+t]?=(q[k]).cells[t]?:=nx1 (fun p:Tq=>[Value.int .i64 p.1.1.1,.int .i64 p.1.1.2,.pointer (some ⟨p.2,0,none⟩)]) 3 (fun _=>rfl) q k t C E
theorem yj4 (K:Nat) (hF:∀args w,(callFunc K args).run prog w=.ok (.enter K args) w) (H:Array Value) (P:Tq->Bool) (A:Option Addr) (n c:Nat) (l:List Tq) (w:World) (hn:n<=1000000) (hr:Row w.heap.size w A n 3 (hcells l))
  (hK:∀x J,Below w.heap.size w J->Calls prog K (#[x.val] ++H) J fun e w'=>e=.returned (.bool (P x))/\Below J.heap.size J w'):
  Calls prog 90 #[.slice A n c,.func (.func K) #[] H] w fun e w'=>e=.returned (.int .i64 (fidx P l))/\Below w.heap.size w w':=by
 have b1:l.length=n:=by have:=hr.len;rw[tq]at this;omega
 have HK:=H_ hK;have HF:=H_ hF;have HR:=H_ hr;clear hK hF hr;go_enter func90,ntmps90;go_wp2
 go_loopw [8] (fun i wr=>∃k:Nat,k<=n/\i=.int .i64 (k:Int)/\Hid ((l.take k).any P=false)/\Below w.heap.size w wr) (fun i _=>n - (intOf i).toNat)
 case atStart=>exact⟨0,w_ _,rfl,H_ rfl,Below.refl _ _⟩
 case round=>
  obtain⟨k,hk,rfl,hb,C⟩:=hrel
  by_cases b6:k < n
  ·have hl:k < l.length:=o_
   obtain⟨a,rfl,a4,O,Q,U⟩:=oq3 HR.out hl;have E:(a.add (k *3)).block < w.heap.size:=by rw[add_block];exact a4
   have c0:=(C.cell (p:=a.add (k *3)) E).trans O;have c1:=(C.cell (p:=⟨(a.add (k *3)).block,(a.add (k *3)).off+1,none⟩) E).trans Q;have b7:=(C.cell (p:=⟨(a.add (k *3)).block,(a.add (k *3)).off+2,none⟩) E).trans U;have ht:=kv1 (P:=P) hl;have hs:=fun h1=>iq1 (P:=P) hl hb.out h1;generalize l[k]=f at *;have HT:=H_ ht;have HS:=H_ hs;clear ht hs hl O Q U;have hc:=HK.out f wr C;unfold Tq.val at hc;generalize hp:P f=p at hc;have HP:=H_ hp;clear hp;have a6:(k:Int) < (n:Int):=o_
   go_wp2_with fail;rw[HF.out,Oper.upon_enter];refine hc.mono ?_;rintro e J ⟨rfl,Z⟩
   cases p with
   |true=>
    go_wp2;go_ret;exact⟨aw2 (HS.out HP.out).symm,az C Z⟩
   |false=>
    go_wp2;go_roundw
    case rel=>exact⟨k+1,o_,by go_num,H_ (by rw[HT.out,hb.out,HP.out];rfl),az C Z⟩
    case measure=>simp[intOf];omega
  ·have I:fidx P l=-1:=bj1 (by
    have a7:=hb.out
    rwa [g_ o_]at a7)
   have HA:=H_ I;clear I;have a6:((k:Int) < (n:Int))=False:=eq_false o_;go_wp2;go_ret;exact⟨aw2 HA.out.symm,C⟩
theorem qz2 {P:Tq->Bool} {l:List Tq} {q:Nat} (h:q < l.length):(l.take (q+1)).filter P=(l.take q).filter P++(if P l[q]=true then [l[q]] else []):=by
 rw[r_ h,aQ_,ar_,List.filter_nil]
theorem sz4 {P:Tq->Bool} {l:List Tq} (h:l.any P=true):(l.take (l.findIdx P+1)).filter (fun y=>!P y)=l.take (l.findIdx P):=by
 have C:l.findIdx P < l.length:=bX_.2 (by simpa using h);rw[qz2 C];have h1:P l[l.findIdx P]=true:=bf_;have h2:(l.take (l.findIdx P)).filter (fun y=>!P y)=l.take (l.findIdx P):=az_.2 fun y E=>by
  obtain⟨i,hi,rfl⟩:=aF_.1 E;have:=bY_ (p:=P) (xs:=l) (i:=i) o_;simpa using this
 rw[h2];simp[h1]
structure Hk (cur cs:List Value) (cap p q:Nat) (L:List Tq):Prop where
 len:cs.length=cap *3
 pre:cs.take (p *3)=hcells L
 post:cs.drop (q *3)=cur.drop (q *3)
 pl:L.length=p
theorem Hk.skip {cur cs:List Value} {cap p q:Nat} {L:List Tq} (h:Hk cur cs cap p q L):Hk cur cs cap p (q+1) L:=
 ⟨h.len,h.pre,by rw[show (q+1)*3=q *3+3 by omega,<-aZ_,h.post,aZ_],h.pl⟩
theorem Tq.gq (x:Tq):x.cells.length=3:=rfl
theorem Hk.keep {cur cs:List Value} {cap p q:Nat} {L:List Tq} (h:Hk cur cs cap p q L) (E:p < q) (H:q < cap) (y:Tq):Hk cur (cs.take (p *3)++(y.cells++cs.drop (p *3+y.cells.length))) cap (p+1) (q+1) (L++[y]):=by
 have I:=h.len;have C:=h.pl;refine⟨by simp only[d_,v_,I_,Tq.gq];omega,?_,?_,by simp[C]⟩
 ·rw[<-K_,ae_ (by simp only[d_,v_,Tq.gq];omega),g_ (by simp only[d_,v_,Tq.gq];omega),h.pre,tq2]
  rfl
 ·rw[<-K_,show (q+1)*3=(cs.take (p *3)++y.cells).length+((q - p)*3) by simp only[d_,v_,Tq.gq];omega,bK_,aZ_,aG_ o_,C_]
  have:=h.skip.post;rw[show p *3+y.cells.length+((cs.take (p *3)++y.cells).length+(q - p)*3 - (cs.take (p *3)++y.cells).length)=(q+1)*3 by simp only[d_,v_,Tq.gq];omega,this]
  congr 1
  simp only[d_,v_,Tq.gq];omega
theorem iw2 (w:World) (g o k:Nat) (I:∀j,j < k *3->(w.cell? ⟨g,o+j,none⟩).isSome=true) (J:∀j,j < k *3->w.frozen? ⟨g,o+j,none⟩=false):
  ∃cs:List Value,cs.length=k *3/\∀ty c,(Builtin.clear_ #[64] ty #[.slice (some ⟨g,o,none⟩) k c]).run prog w=.ok (.tuple #[]) (w.setCells g o cs):=by
 refine⟨(Builtin.zeroCells (Value.agg #[.int .i64 0,.int .i64 0,.pointer none]).cells k).toList,by simp[Builtin.zeroCells,Value.cells],fun ty c=>?_⟩;have E:(Builtin.zeroCells (Value.agg #[.int .i64 0,.int .i64 0,.pointer none]).cells k).toList.length=k *3:=by simp[Builtin.zeroCells,Value.cells]
 have h1:∀v∈(Builtin.zeroCells (Value.agg #[.int .i64 0,.int .i64 0,.pointer none]).cells k).toList,v.oneCell'=true:=fun v H=>by
  simp only[Builtin.zeroCells,Value.cells,Array.mem_toList_iff,Array.mem_map]at H;obtain⟨a,_,rfl⟩:=H;have h5:a % 3 < 3:=bP_ _ o_;show Value.oneCell' ((#[.int .i64 0,.int .i64 0,.pointer none]:Array Value)[a % 3]!)=true
  generalize a % 3=b at *
  match b with
  |0=>rfl
  |1=>rfl
  |2=>rfl
  |b+3=>omega
 have C:=run_storeCells_cells (P:=prog) g o (Builtin.zeroCells (Value.agg #[.int .i64 0,.int .i64 0,.pointer none]).cells k).toList 0 w (by simpa [E] using I) (by simpa [E] using J) h1;simp only[bm_]at C;have O:(zeroValue 92).run prog w=.ok (.agg #[.int .i64 0,.int .i64 0,.pointer none]) w:=by kernel_rfl
 cases k with
 |zero=>simp[Builtin.clear_,run_underlying underlying64,Builtin.zeroCells,World.setCells]
 |succ k=>simp[Builtin.clear_,run_underlying underlying64,O,C]
theorem vv3 (K:Nat) (hF:∀args w,(callFunc K args).run prog w=.ok (.enter K args) w) (a0:Array Value) (P:Tq->Bool) (base:Nat) (A:Option Addr) (n c2 cap:Nat) (l:List Tq) (w:World) (hn:n<=1000000) (i':n<=c2) (a1:base<=w.heap.size) (ho:w.ownsRow base 92 3 (.slice A n cap) n (hcells l))
  (hK:∀x w1,(∀F,(∀a,A=some a->F=[a.block])->Chg F w w1)->Calls prog K (#[x.val] ++a0) w1 fun e w'=>e=.returned (.bool (P x))/\Below w1.heap.size w1 w'):
  Calls prog 27 #[.slice A n c2,.func (.func K) #[] a0] w fun e w'=>∃k A',e=.returned (.slice A' k c2)/\k=(l.filter fun y=>!P y).length/\w'.ownsRow base 92 3 (.slice A' k cap) k (hcells (l.filter fun y=>!P y))/\Below base w w':=by
 have H:=yj4 K hF a0 P A n c2 l w hn (Row.own ho) (fun x w1 hb=>hK x w1 (fun F _=>Chg.of_below hb F));have b6:l.length=n:=by have:=ho.1;rw[tq]at this;omega
 cases C:l.any P with
 |false=>
  rw[bj1 C]at H;have d6:(l.filter fun y=>!P y)=l:=az_.2 fun y hy=>by
   have:=(X_.1 C) y hy;simpa using this
  have HF:=H_ d6;have HO:=H_ ho;have HI:=H_ H;have g7:=H_ b6;clear H C d6 ho hK b6;go_enter func27,ntmps27;go_wp2_with fail;refine HI.out.mono ?_;rintro e w1 ⟨rfl,Z⟩;go_wp2;go_ret;exact⟨n,A,rfl,by rw[HF.out];exact g7.out.symm,by rw[HF.out];exact own_below HO.out Z,Z.mono a1⟩
 |true=>
  rcases ho.2 with ⟨hv0,h0⟩|⟨g,i3,cur,g8,d7,a2,j3,g9,g',b7⟩
  ·subst h0
   have:l=[]:=ag_.1 b6;subst this
   cases C
  injection g8 with hA _ hc;subst hA hc;have hB:BoxO w 92 g cur.toList:=by unfold BoxO;simpa using a2
  have h6:cur.toList.length=cap *3:=by simpa using g'
  generalize cur.toList=cu at *;obtain⟨k0,d9,j6,h7,d'⟩:=mv3 C;have a4:=sz4 C;rw[d']at a4;rw[d9]at H;have e0:Hk cu cu cap k0 (k0+1) ((l.take (k0+1)).filter fun y=>!P y):=by
   rw[a4];exact⟨h6,by rw[ok3,<-b7,aV_,a0_ o_],rfl,by rw[v_];omega⟩
  have HI:=H_ H;have e2:=H_ e0;have HB:=H_ hB;have HF:=H_ hF;have HK:=H_ hK;have h8:=H_ b7;have j8:k0 < n:=o_
  unfold maxLen at g9;clear H e0 a4 C h7 d' d9 hF hK b7 a2 ho hB;go_enter func27,ntmps27;go_wp2_with fail;refine HI.out.mono ?_;rintro e w1 ⟨rfl,Z⟩;have e4:=HB.out.below Z;have e5:Chg [g] w w1:=Chg.of_below Z [g];have e1:((k0:Int)==-1)=false:=by rw[beq_eq_false_iff_ne];omega
  have e6:=H_ e4;clear HI HB e4 Z;go_wp2_with fail
  go_loopw [5,6] (fun i j wr=>∃p q:Nat,p < q/\q<=n/\i=.int .i64 (p:Int)/\j=.int .i64 (q:Int)/\Hid (∃cs,BoxO wr 92 g cs/\Hk cu cs cap p q ((l.take q).filter fun y=>!P y))/\Chg [g] w wr) (fun i j _=>n - (intOf j).toNat)
  case atStart=>exact⟨k0,k0+1,o_,o_,rfl,by go_num,H_ ⟨cu,e6.out,e2.out⟩,e5⟩
  case round=>
   obtain⟨p,q,h9,j',rfl,rfl,a8,hC⟩:=hrel;clear e6 e2 e5 e1
   by_cases k1:q < n
   ·obtain⟨cs,O,pk⟩:=a8.out
    have hl:q < l.length:=o_
    have hq:∀t v,t < 3->(l[q]).cells[t]?=some v->wr.cell? ⟨g,q *3+t,none⟩=some v:=fun t v ht hv=>by
     rw[O.cell,show cs[q *3+t]?=(cs.drop (q *3))[t]? by rw[ax_],pk.post,ax_,<-hv,<-zw3 l q t hl ht,<-h8.out,a1_,if_pos o_]
    have e7:=qz2 (P:=fun y=>!P y) hl;generalize l[q]=y at *;have d0:=hq 0 _ o_ rfl;rw[bm_]at d0;have d1:=hq 1 _ o_ rfl;have d2:=hq 2 _ o_ rfl;have Q:Chg [g] w (wr.alloc (.cells #[.int .i64 y.1.1.1,.int .i64 y.1.1.2,.pointer (some ⟨y.2,0,none⟩)] 92)):=hC.alloc _;have hk:=HK.out y (wr.alloc (.cells #[.int .i64 y.1.1.1,.int .i64 y.1.1.2,.pointer (some ⟨y.2,0,none⟩)] 92)) (fun F hF=>by rw[hF _ rfl];exact Q);have b9:=BoxO.new wr #[.int .i64 y.1.1.1,.int .i64 y.1.1.2,.pointer (some ⟨y.2,0,none⟩)] 92;have a5:=O.alloc (.cells #[.int .i64 y.1.1.1,.int .i64 y.1.1.2,.pointer (some ⟨y.2,0,none⟩)] 92);unfold Tq.val at hk;obtain⟨b,hb⟩:=n_ (P y);rw[<-hb]at hk;have e9:=H_ e7;have HB:=H_ hb;have a9:=H_ pk;have b':=H_ hk;have k3:(q:Int) < (n:Int):=o_
    have k4:(p:Int) < (n:Int):=o_
    clear e7 hb pk hk hq O a8 hl;go_wp2_with fail;rw[HF.out,Oper.upon_enter];refine b'.out.mono ?_;rintro e w2 ⟨rfl,c9⟩;have U:=b9.below c9;have E:=a5.below c9;have e':Chg [g] w w2:=Q.trans (Chg.of_below c9 []) (fun g hg=>by cases hg);generalize wr.heap.size=bv at *
    cases b with
    |true=>
     have I:Hk cu cs cap p (q+1) ((l.take (q+1)).filter fun y=>!P y):=by
      rw[e9.out,<-HB.out];simpa using a9.out.skip
     have a6:=H_ I;clear I d0 d1 d2 b' b9 a5 Q;go_wp2;go_roundw
     case rel=>exact⟨p,q+1,o_,o_,rfl,by go_num,H_ ⟨cs,E,a6.out⟩,e'⟩
     case measure=>simp[intOf];omega
    |false=>
     have I:=a9.out.keep h9 o_ y;have f5:((l.take (q+1)).filter fun y=>!P y)=((l.take q).filter fun y=>!P y)++[y]:=by
      rw[e9.out,<-HB.out];rfl
     rw[<-f5]at I;have f6:=BoxO.stores y.cells (p *3) w2 cs E (by have:=a9.out.len;rw[Tq.gq];omega);have f7:=ax1 g y.cells (p *3) w w2 e';have J:∀t,t < 3->∃u,w2.cell? ⟨g,p *3+t,none⟩=some u:=fun t ht=>⟨cs[p *3+t]'(by have:=a9.out.len;omega),by rw[E.cell];exact h_ _⟩;obtain⟨u0,s0⟩:=J 0 o_;obtain⟨u1,s1⟩:=J 1 o_;obtain⟨u2,s2⟩:=J 2 o_;have z0:=E.free (p *3);have z1:=E.free (p *3+1);have z2:=E.free (p *3+2);have b0:=U.cell 0;have b1:=U.cell 1;have b2:=U.cell 2;simp only[gE0,gE1,bm_]at b0 b1 b2 s0;have a6:=H_ I;have f8:=H_ (c_ f6 f7);clear I f5 f6 f7 J d0 d1 d2 b' b9 a5 Q U E;go_wp2;go_roundw
     case rel=>exact⟨p+1,q+1,o_,o_,by go_num,by go_num,H_ ⟨_,f8.out.1,a6.out⟩,f8.out.2⟩
     case measure=>simp[intOf];omega
   ·obtain rfl:q=n:=o_
    obtain⟨cs,O,pk⟩:=a8.out;have a':=pk.pl;obtain⟨zs,i2,f9⟩:=iw2 wr g (p *3) (q - p) (fun j hj=>by rw[O.cell,h_ (by have:=pk.len;omega)];rfl) (fun j hj=>O.free _);obtain⟨W2,c'⟩:=n_ (wr.setCells g (p *3) zs);have d3:=BoxO.stores zs (p *3) wr cs O (by have:=pk.len;omega);have Q:=ax1 g zs (p *3) w wr hC;rw[<-c']at d3 Q;simp only[<-c']at f9;have b3:(l.take q).filter (fun y=>!P y)=l.filter (fun y=>!P y):=by rw[g_ o_]
    rw[b3]at pk a';have b5:W2.ownsRow base 92 3 (.slice (some ⟨g,0,none⟩) p cap) p (hcells (l.filter fun y=>!P y)):=by
     refine⟨by rw[tq,a'],.inr ⟨g,cap,_,rfl,d7,d3,o_,by unfold maxLen;omega,?_,?_⟩⟩
     ·have:=pk.len
      simp only[aA_,d_,v_,I_];omega
     ·rw[bl_,ae_ (by have:=pk.len;rw[v_];omega),aV_,Nat.min_self,pk.pre]
    have f':=H_ (c_ a'.symm (c_ b5 (Q.below a1 (by simpa using d7))));have k9:((q:Int) < (q:Int))=False:=eq_false o_;have k':¬(c2=p):=o_
    have i6:(p:Int)<=(q:Int):=o_
    have i7:p<=q:=o_
    have l1:p<=c2:=o_
    have i8:(p:Int)<=(c2:Int):=o_
    clear O pk a' i2 d3 Q b3 b5 a8 hC c';go_wp2_with fail;go_ret;exact⟨p,_,rfl,f'.out⟩
end Go.Proofs.YtkdbagdiplpcfaaGreatDoor
