/- Some of the texts. No conditions. -/
import Derived.Test.YtfbkjjdfboagfaaGreatDoorBunAG
import Derived.Maps.OwnIn
import Derived.Test.YtfbkjjdfboagfaaGreatDoorBunAJ

set_option linter.unusedSimpArgs false
set_option linter.unusedVariables false
set_option maxRecDepth 100000
set_option maxHeartbeats 16000000
namespace Go.Proofs.YtfbkjjdfboagfaaGreatDoor
open Go.Proofs.Tryz Go Go.RowKit Go.Lib Go.Shelf
attribute [local go_sem] Oper.semAt_some
theorem dw5:(prog.info? 34).map (fun i=>(i.zero,i.size,i.bytes))=some (some (.slice none 0 0),1,24):=by kernel_rfl
theorem xw1 (p:Addr) (n c:Nat) (l:List It) (w:World) (h0:0 < n) (hn:n<=1000000) (Q:Row w w (some p) n 5 (itc l)):
  Calls prog 256 #[.slice (some p) n c] w fun e w'=>∃A' c',e=.returned (.slice A' n c')/\w'.ownsRow w 33 5 (.slice A' n c') n (itc l)/\n<=c'/\c'<=maxLen/\Below w w w':=by
 obtain⟨i0,E,H,I,J⟩:=info_parts wz;have HR:=H_ Q;clear Q;go_enter func256,ntmps256;have z:(w.alloc (.cells #[] 33)).ownsRow w 33 5 (.slice (some (w:Nat)) 0 0) 0 []:=⟨rfl,.inr ⟨(w:Nat),0,#[],rfl,B_ _,heap_alloc_new w _,B_ _,by decide,rfl,rfl⟩⟩;have o:=b_ w (.cells #[] 33);have U:=H_ z;have O:=H_ o;have C:=H_ (HR.below o);clear z o;have a0:∀W,(binOp .eql 34 (.slice (some p) n c) (.slice none 0 0)).run prog W=.ok (.bool false) W:=fun W=>Lib.run_eql_slice_some_nil (e:=33) W _ _ _ (by kernel_rfl);go_wp2_with (at_builtin;refine iq ?_);refine gz (iy rfl (.tmp 5) (.tmp 6) _ rfl (w:Nat) 33 i0 _ 5 40 underlying34 E H I J rfl o_ w O.out O.size _ 0 [] rfl U.out w _ n c (itc l) rfl C.out (ax1 l) n _ (am_ n) (D_ _) (by unfold maxLen;omega) o_ ?_);intro A3 c3 w3 z1 z2 z3 z4 z5;have HF:=H_ z1;clear z1 z3 U O C;go_wp2;go_ret;exact⟨A3,c3,rfl,HF,z4,z5,z2⟩
def Kp3 (n₀ a b:Nat) (W W':World):Prop:=Below n₀ W W'/\W'.heap[a]?=W.heap[a]?/\W'.heap[b]?=W.heap[b]?
theorem Kp3.trans {n₀ a b:Nat} {A B C:World} (h:Kp3 n₀ a b A B) (k:Kp3 n₀ a b B C):Kp3 n₀ a b A C:=⟨h.1.trans k.1,k.2.1.trans h.2.1,k.2.2.trans h.2.2⟩
theorem Kp3.cell {n₀ a b:Nat} (W o:World) (h:Kp3 n₀ a b W o):o.cell? a=W.cell? a/\o.cell? b=W.cell? b:=⟨X_ h.2.1,X_ h.2.2⟩
theorem own_ne {W:World} {base:Nat} {e:TypeId} {size n:Nat} {v:Value} {xs:List Value} (h:W.ownsRow base e size v n xs) {row:Option Nat} (z:∀r,row=some r->∀cs C,W.heap[r]?≠some (.cells cs e C)):v.ownBlock=none\/v.ownBlock≠row:=by
 rcases h.2 with ⟨rfl,_⟩|⟨g,cap,cur,rfl,H,o,_⟩
 ·exact .inl rfl
 ·exact .inr fun E=>z g (by simpa [Value.ownBlock] using E.symm) _ _ o
def Cuts {m len:Nat} (n₀:Nat) (W:World) (L:List It) (v:Value) (pre:List (Ck m len)):Prop:=∃vs,W.ownsRow n₀ 34 1 v pre.length vs/\∀i (h:i < pre.length),∃A k c,vs[i]?=some (.slice A k c)/\k<=c/\c<=maxLen/\W.ownsRow n₀ 33 5 (.slice A k c) k (itc (Ck.of L pre[i]))
theorem Cuts.kept {m len n₀:Nat} {W z:World} {L:List It} {v:Value} {pre:List (Ck m len)} (h:Cuts n₀ W L v pre) {row:Option Nat} (C:W.grownBy z row) (E:∀r,row=some r->∀cs o,W.heap[r]?≠some (.cells cs 34 o)/\W.heap[r]?≠some (.cells cs 33 o)):Cuts n₀ z L v pre:=by
 obtain⟨vs,h1,h2⟩:=h;refine⟨vs,h1.kept C (own_ne h1 fun r e cs o=>(E r e cs o).1),fun i hi=>?_⟩;obtain⟨A,k,c,I,J,O,H⟩:=h2 i hi;exact⟨A,k,c,I,J,O,H.kept C (own_ne H fun r e cs o=>(E r e cs o).2)⟩
theorem Cuts.more {m len n₀:Nat} {W z:World} {L:List It} {v H:Value} {vs:List Value} {pre:List (Ck m len)} {x:Ck m len} {A:Option Addr} {k c:Nat} (h:∀i (h:i < pre.length),∃A k c,vs[i]?=some (.slice A k c)/\k<=c/\c<=maxLen/\W.ownsRow n₀ 33 5 (.slice A k c) k (itc (Ck.of L pre[i]))) (hl:vs.length=pre.length) (I:W.grownBy z v.ownBlock) (hv:W.ownsRow n₀ 34 1 v pre.length vs)
  (hk:k<=c) (hc:c<=maxLen) (J:W.ownsRow n₀ 33 5 (.slice A k c) k (itc (Ck.of L x))) (C:z.ownsRow n₀ 34 1 H (pre.length+1) (vs++[.slice A k c])):Cuts n₀ z L H (pre++[x]):=by
 have o:∀r,v.ownBlock=some r->∀cs O,W.heap[r]?≠some (.cells cs 33 O):=by
  intro r Q cs O e
  rcases hv.2 with ⟨rfl,_⟩|⟨g,cap,cur,rfl,hb,E,_⟩
  ·simp[Value.ownBlock]at Q
  ·obtain rfl:g=r:=by simpa [Value.ownBlock] using Q
   rw[E]at e;injection e with e;injection e with _ e;exact absurd e (by decide)
 refine⟨vs++[.slice A k c],by rw[e_];exact C,fun i hi=>?_⟩;rw[e_]at hi
 rcases ad_ i pre.length with h1|h1
 ·obtain⟨A,k,c,z1,z2,z3,U⟩:=h i h1
  refine⟨A,k,c,by rw[K_ o_];exact z1,z2,z3,?_⟩;rw[aL_ h1];exact U.kept I (own_ne U o)
 ·have h2:i=pre.length:=by simp at hi;omega
  subst h2;refine⟨A,k,c,by rw[<-hl];simp,hk,hc,?_⟩;rw[bL_ l_];simp only[by_,a5_];exact J.kept I (own_ne J o)
theorem Cuts.rows {m len n₀:Nat} {W:World} {L:List It} {A:Option Addr} {n c:Nat} {pre:List (Ck m len)} (h:Cuts n₀ W L (.slice A n c) pre):n=pre.length/\nj1 W W A n (pre.map (Ck.of L)):=by
 obtain⟨vs,h1,h2⟩:=h;have o:n=pre.length:=by
  rcases h1.2 with ⟨e,I⟩|⟨g,cap,cur,e,_⟩
  ·injection e with _ e _
   omega
  ·injection e
 subst o;refine⟨rfl,vs,Row.own h1,by simp,fun i hi=>?_⟩;rw[aG_]at hi;obtain⟨A,k,c,z,C,E,H⟩:=h2 i hi;exact⟨A,k,c,z,C,E,by rw[cy_];exact Row.own H⟩
theorem oj1 {P:Program} {F:Fence} {nF:Nat} {ops:Array Oper} {o:Oper} {a:Act} {w:World} {K:Act->World->Prop} {Q:Exit->Act->World->Prop} {E:Prop} (U:o.guard=none) (s x:Operand) (t:TypeId)
  (ho:o.op=.call { callee:=.builtin .append,args:=#[s,x],argTypes:=#[t,t] })
  (base:Nat) (e:TypeId) (i:TypeInfo) (z:Value) (size bytes:Nat) (ht:P.underlying t=some (.slice e)) (hi:P.info? e=some i) (hz:i.zero=some z)
  (H:i.size=size) (a1:i.bytes=bytes) (a2:z.cells.size=size) (a4:0 < size) (I:base<=(w:Nat)) (v:Value) (n:Nat) (xs:List Value) (hs:a.eval s=v) (J:w.ownsRow base e size v n xs)
  (B:Nat) (A:Option Addr) (m c:Nat) (news:List Value) (hx:a.eval x=.slice A m c) (hr:Row B w A m size news) (h1:∀u∈news,u.oneCell'=true)
  (N:Nat) (X:List Value) (hN:n+m=N) (hX:xs++news=X) (a5:N<=maxLen) (C:N *bytes<=140737488355328)
  (h:∀A' c' w',w'.ownsRow base e size (.slice A' N c') N X->w.grownBy w' v.ownBlock->N<=c'->c'<=maxLen->((Value.slice A' N c').ownBlock=v.ownBlock\/(Value.slice A' N c').ownBlock=some (w:Nat))->K (a.put o.dst (.slice A' N c')) w'):
  if Region.wanted o (yielded ops a.tmps)=true then Oper.wpIn F nF P o a w K Q else E:=by
 have hw:Region.wanted o (yielded ops a.tmps)=true:=by simp[Region.wanted,U]
 rw[if_pos hw];subst hN;subst hX;obtain⟨A',c',w',O,h3,h4,h5,h7,h6⟩:=zj2 (P:=P) w base t o.type e i z size bytes ht hi hz H a1 a2 a4 v n xs J B A m c news hr h1 a5 C I;unfold Oper.wpIn;refine⟨by simp[Oper.about,ho,resolve,Target.leads,Sem.run_pure],?_⟩;rw[Oper.semAt_plain F _ _ (by rw[ho];intro c a6;cases a6)];simp[execOp,ho,resolve,invoke,builtin,hs,hx,O,Result.andThen];exact h _ _ _ h3 h4 h5 h7 h6
theorem sx4 (L:List It) (k m:Nat) {len:Nat} (o:L.length=len):((itc L).drop (k *5)).take (m *5)=((itc L).drop (k *5)).take (min m (len - k)*5):=by
 rcases Nat.le_total m (len - k) with h|h
 ·rw[aQ_ h]
 ·rw[Nat.min_eq_right h,i_ (by rw[I_,iw];omega),i_ (by rw[I_,iw];omega)]
theorem qw1 {m len:Nat} {w W w1 z:World} {L:List It} {v:Value} {A1 E:Option Addr} {c1 c3:Nat} {vs:List Value} {pre:List (Ck m len)} {x:Ck m len} (o:Obj)
  (h1:z.ownsRow ((w:Nat)+3) 34 1 (.slice E (pre.length+1) c3) (pre.length+1) (vs++[.slice A1 x.len c1])) (hg:(w1.alloc o).grownBy z v.ownBlock) (C:Below W W w1)
  (ho:w1.ownsRow W 33 5 (.slice A1 x.len c1) x.len (itc (Ck.of L x))) (hc:x.len<=c1/\c1<=maxLen)
  (hX:Boxed z w 108 v/\Boxed (z.setCell w (.slice E (pre.length+1) c3)) w 108 (.slice E (pre.length+1) c3)/\KeepsOthers w1 (z.setCell w (.slice E (pre.length+1) c3))/\Below w w1 (z.setCell w (.slice E (pre.length+1) c3)))
  (a0:∀i (h:i < pre.length),∃A k c,vs[i]?=some (.slice A k c)/\k<=c/\c<=maxLen/\W.ownsRow ((w:Nat)+3) 33 5 (.slice A k c) k (itc (Ck.of L pre[i]))) (H:W.ownsRow ((w:Nat)+3) 34 1 v pre.length vs) (a1:(w:Nat)+3<=(W:Nat)) (hB:Below w w W):
  KeepsOthers W (z.setCell w (.slice E (pre.length+1) c3))/\Kp3 w ((w:Nat)+1) ((w:Nat)+1+1) W (z.setCell w (.slice E (pre.length+1) c3))/\
   (((w:Nat)+3<=(z.setCell w (.slice E (pre.length+1) c3)).heap.size/\∃v',Boxed (z.setCell w (.slice E (pre.length+1) c3)) w 108 v'/\Cuts ((w:Nat)+3) (z.setCell w (.slice E (pre.length+1) c3)) L v' (pre++[x]))/\Below w w (z.setCell w (.slice E (pre.length+1) c3))):=by
 obtain⟨x1,x2,x3,x4⟩:=hX;have Q:=C.mono (show (w:Nat)<=(W:Nat) by omega);have a4:W.grownBy w1 none:=⟨C.os,C.tape,C.output,C.size,fun k U _=>C.block k U⟩;have a5:KeepsOthers W w1:=KeepsOthers.of_grownBy a4 (fun j o ej=>by cases ej);have J:=(own_below H C).alloc o;have a6:∀k,v.ownBlock=some k->(w:Nat)+3<=k:=by
  intro k U
  rcases H.2 with ⟨rfl,_⟩|⟨g,cap,cur,rfl,C,b',_⟩
  ·simp[Value.ownBlock]at U
  ·obtain rfl:g=k:=by simpa [Value.ownBlock] using U
   exact C
 have I:∀k,k < (w:Nat)+3->k≠(w:Nat)->(z.setCell w (.slice E (pre.length+1) c3)).heap[k]?=W.heap[k]?:=by
  intro k U a7;rw[Below.heap_setCell _ _ _ k (fun e=>a7 e),hg.block k (by rw[F_];have:=C.size;omega) (fun e=>by have:=a6 k e.symm;omega),Below.heap_alloc _ _ k (by have:=C.size;omega),C.block k o_]
 refine⟨a5.trans x3,⟨Q.trans x4,I _ o_ o_,I _ o_ o_⟩,⟨?_,_,x2,?_⟩,(hB.trans Q).trans x4⟩
 ·have h2:=x4.size
  have:=C.size;omega
 ·have a8:Cuts ((w:Nat)+3) z L (.slice E (pre.length+1) c3) (pre++[x]):=by
   refine Cuts.more (W:=w1.alloc o) (v:=v) (fun i hi=>?_) (by have:=H.1;omega) hg J hc.1 hc.2 (own_base (ho.alloc o) a1) h1;obtain⟨A,k,c,z1,z2,z3,z4⟩:=a0 i hi;exact⟨A,k,c,z1,z2,z3,(own_below z4 C).alloc o⟩
  refine a8.kept (grownBy_setCell' _ _ _) (fun r e cs fr=>?_)
  cases e
  constructor<;>(intro O;rw[show z.heap[(w:Nat)]?=_ from x1]at O;injection O with O;injection O with _ O;exact absurd O (by decide))
theorem dk5 (A:Option Addr) (len c:Nat) (L:List It) (w:World) (g8:len<=2000) (f2:len<=c) (hr:Row w w A len 5 (itc L)):
  Calls prog 215 #[.slice A len c,.int .i64 20] w fun e w'=>∃A' k c',e=.returned (.slice A' k c')/\k<=c'/\c'<=maxLen/\nj1 w' w' A' k (Tb.cut 20 len L)/\Below w w w':=by
 obtain⟨i0,b6,b7,b8,b9⟩:=info_parts dw5;have d8:=hr.yw;have h':max (20:Int) 1=20:=by decide
 have i1:min (20:Int) 100=20:=by decide
 obtain⟨p,hp⟩:∃p,0 < len->A=some p:=by
  cases A with
  |none=>
   refine⟨⟨0,0,none⟩,fun h=>?_⟩;obtain⟨a,_,e,_⟩:=hr.it h
   cases e
  |some p=>exact⟨p,fun _=>rfl⟩
 have HR:=H_ hr;have HP:=H_ hp;clear hr hp;refine(callsIn_wide (n:=6)).1 ?_;refine callsIn_of_wp_marks func215 rfl trivial ?_ rfl;simp only[ntmps215,az_,r_,R_,Nat.reduceAdd,Nat.reduceSub,a0_,a1_,bf_,a7_,D_,U_]
 gi_wp2_with (refine⟨trivial,?_⟩;gi_at_call 65;refine(ty2 Fence.wide 5 trivial rfl A len c 20 o_ _).mono ?_;rintro e w' ⟨rfl,rfl⟩)
 have bO:=Boxed.new w 108 (.slice none 0 0);have bS:=Boxed.new (w.alloc (.cells #[.slice none 0 0] 108)) 34 (.slice A len c);have bM:=Boxed.new ((w.alloc (.cells #[.slice none 0 0] 108)).alloc (.cells #[.slice A len c] 34)) 3 (.int .i64 ((20:Nat):Int));rw[F_]at bS;rw[F_,F_]at bM;have d9:Below w w (((w.alloc (.cells #[.slice none 0 0] 108)).alloc (.cells #[.slice A len c] 34)).alloc (.cells #[.int .i64 ((20:Nat):Int)] 3)):=(((Below.refl _ w).alloc l_ _).alloc s_ _).alloc (by simp;omega) _;have d':=pz3 Fence.wide 5 trivial rfl o_ (w.heap.size+1) (w.heap.size+1+1) (Kp3 w (w.heap.size+1) (w.heap.size+1+1)) Kp3.cell p A len c 20 HP.out L d8 o_ o_ o_ f2 _ s_ s_ (bS.alloc _).cell bM.cell;refine wpIn_rangeFunc_ownF (α:=Ck 20 len) (n:=6) (encs:=fun x=>#[Ck.val p x]) rfl o_ (gf:=132) (lb:=#[.pointer (some ⟨w.heap.size+1,0,none⟩),.pointer (some ⟨w.heap.size+1+1,0,none⟩)]) rfl trivial (enters_of func132 (by kernel_rfl) rfl) d' Kp3.trans ?hKb b0_ (fun _=>rfl)
  (fun pre W=>(w.heap.size+3<=W.heap.size/\∃v,Boxed W w 108 v/\Cuts (w.heap.size+3) W L v pre)/\Below w w W)
  (fun _ _ _=>False) ?hI (fun _ _ _ _ _ hs _ _=>hs) ⟨⟨by simp,_,(bO.alloc _).alloc _,[],G_ _ _ _ _,fun i hi=>absurd hi s_⟩,d9⟩
  (fun x=>{ tmps:=#[.slice A len c,.int .i64 20,undef,undef,.slice none 0 0,w.heap.size,Ck.val p x,.slice A len c,.int .i64 20,.int .i64 20,.int .i64 20,.func (.func 132) #[] #[.pointer (some ⟨w.heap.size+1,0,none⟩),.pointer (some ⟨w.heap.size+1+1,0,none⟩)],Ck.val p x,undef,undef,undef,undef,undef,undef],defers:=[] }) ?assign ?body ?done ?stop
 case hKb=>
  intro W l o o' hl ho h1 h2;refine⟨belowK_b (by simp;omega) W l o o' hl ho h1 h2,O_ (fun e=>?_),O_ (fun e=>?_)⟩
  ·simp at hl;omega
  ·simp at hl;omega
 case hI=>
  refine OwnFrom.and (fun pre W W' row hs hg hr=>?_) (ownFrom_below l_ (by simp;omega));obtain⟨h0,v,h1,h2⟩:=hs;have e0:∀r,row=some r->∃o:Obj,W.heap[r]?=some o/\o.isCells=false:=fun r e=>(hr r e).2;refine⟨g_ h0 hg.size,v,h1.kept hg (fun e'=>?_),h2.kept hg fun r e cs fr=>?_⟩
  ·obtain⟨o,ho,hc⟩:=e0 _ e'.symm
   rw[show W.heap[w.heap.size]?=_ from h1]at ho
   cases ho
   cases hc
  ·obtain⟨o,ho,hc⟩:=e0 r e
   constructor<;>(intro e2;rw[ho]at e2;cases e2;cases hc)
 case assign=>
  intro l x W K C
  gi_wp2
  exact C
 case body=>
  rintro l pre x W ⟨⟨b',v,hv,vs,d2,e3⟩,hB⟩ i7;have hc:=hv.cell;have hx:=x.2;have H:0 < x.len:=by unfold Ck.len;omega
  have J:x.len<=20:=by unfold Ck.len;omega
  have a1:x.1 *20+x.len<=len:=by unfold Ck.len;omega
  have hA:A=some p:=HP.out o_;have d3:Row W W.drew (some (p.add (x.1 *20 *5))) x.len 5 (itc (Ck.of L x)):=by
   have h1:=((HR.out.below hB).up hB.size).drew;have h2:=h1.cut (k:=x.1 *20) (m:=x.1 *20+x.len) (A':=some (p.add (x.1 *20 *5))) o_ o_ (fun _=>by rw[hA];rfl);rw[show x.1 *20+x.len - x.1 *20=x.len from by omega]at h2;rw[show itc (Ck.of L x)=((itc L).drop (x.1 *20 *5)).take (x.len *5) from by unfold Ck.of;rw[ex1,qk1];exact sx4 L (x.1 *20) 20 d8];exact h2
  have b0:=H_ d3;have c9:=H_ e3;have I:=H_ d2;have HV:=H_ hv;have d0:=H_ hB;clear d3 e3 d2 hv hA hx a1 d' bO bS bM d9
  gi_wp2
  refine wpIn_region_any (by kernel_rfl) ?_;change wpAnyIn _ _ _ _ _ _ _ _ _ (World.drew _);refine wpAnyIn_ready (rs:=[0,1]) (by kernel_rfl) s_ ?_;refine AllReadyIn.cons rfl (fun K C=>?_) ?_
  ·go_simp
   refine C _ _ ?_;clear C K;refine wpAnyIn_ready (rs:=[1]) (by kernel_rfl) s_ ?_;refine AllReadyIn.cons rfl (fun K C=>?_) ?_
   ·go_simp
    refine C _ _ ?_;clear C K;refine wpAnyIn_ready (rs:=[2]) (by kernel_rfl) s_ ?_;refine AllReadyIn.cons rfl (fun K C=>?_) ?_
    ·go_simp
     gi_wp2_with (refine⟨trivial,?_⟩;gi_at_call 256;refine(CallsIn.inRound l (callsIn_wide.2 (xw1 _ x.len _ (Ck.of L x) _ o_ o_ b0.out))).mono ?_;rintro e w1 ⟨A1,c1,rfl,a4,a5,a6,a7⟩)
     have a9:=H_ (a4:w1.ownsRow W 33 5 (.slice A1 x.len c1) x.len (itc (Ck.of L x)));have z:=H_ (((Below.refl W W).drew).trans a7);have b2:=(z.out.cell (p:=⟨w,0,none⟩) HV.out.lt).trans hc;have e5:=(ap_ w1 (.cells #[.slice A1 x.len c1] 34) ⟨w,0,none⟩ (by have:=z.out.size;have:w1.drew.heap.size=w1.heap.size:=rfl;simp;omega)).trans b2;have a':=H_ (d_ a5 a6);clear a4 a7 a5 a6;refine wpAnyIn_ready (rs:=[3]) (by kernel_rfl) s_ ?_;refine AllReadyIn.cons rfl (fun K C=>?_) ?_
     ·go_simp
      refine C _ _ ?_;clear C K;refine wpAnyIn_ready (rs:=[4]) (by kernel_rfl) s_ ?_;refine AllReadyIn.cons rfl (fun K C=>?_) ?_
      ·refine oj1 rfl (.tmp 13) (.tmp 16) _ rfl (w.heap.size+3) 34 i0 _ 1 24 underlying108 b6 b7 b8 b9 rfl o_ (by have:=z.out.size;rw[F_];omega) v pre.length vs rfl ((own_below I.out z.out).alloc _) _ (some ⟨w1,0,none⟩) 1 1 [.slice A1 x.len c1] rfl (Row.new w1 #[.slice A1 x.len c1] 34 rfl) (by simp[Value.oneCell']) (pre.length+1) _ rfl rfl (by unfold maxLen;omega) o_ ?_
       intro A3 c3 w3 E O _ _ _;have HW:=H_ (d_ E O);clear E O;have Q:Boxed w1 w 108 v:=(z.out.block _ HV.out.lt).trans HV.out;obtain⟨H,J,a1,U,a0⟩:=Q.appended (by decide) (own_base (own_below I.out z.out) (aq_ _ 3)) (by have:=z.out.size;omega) l_ (own_base HW.out.1 (aq_ _ 3)) HW.out.2;have b3:=H.cell;have b5:=H.frozen;have HX:=H_ (d_ H (d_ J (d_ U a0)));clear H J a1 U a0 Q;refine C _ _ ?_;clear C K;refine wpAnyIn_ready (rs:=[5]) (by kernel_rfl) s_ ?_;refine AllReadyIn.cons rfl (fun K C=>?_) ?_
       ·go_simp
        refine C _ _ ?_;clear C K;refine wpAnyIn_done (by kernel_rfl) ?_ _
        gi_wp2
        exact qw1 _ HW.out.1 HW.out.2 z.out a9.out a'.out HX.out c9.out I.out b' d0.out
       exact AllReadyIn.nil
      exact AllReadyIn.nil
     exact AllReadyIn.nil
    exact AllReadyIn.nil
   exact AllReadyIn.nil
  refine AllReadyIn.cons rfl (fun K C=>?_) ?_
  ·go_simp
   refine C _ _ ?_;clear C K;refine wpAnyIn_ready (rs:=[0,2]) (by kernel_rfl) s_ ?_;refine AllReadyIn.cons rfl (fun K C=>?_) ?_
   ·go_simp
    refine C _ _ ?_;clear C K;refine wpAnyIn_ready (rs:=[2]) (by kernel_rfl) s_ ?_;refine AllReadyIn.cons rfl (fun K C=>?_) ?_
    ·go_simp
     gi_wp2_with (refine⟨trivial,?_⟩;gi_at_call 256;refine(CallsIn.inRound l (callsIn_wide.2 (xw1 _ x.len _ (Ck.of L x) _ o_ o_ b0.out))).mono ?_;rintro e w1 ⟨A1,c1,rfl,a4,a5,a6,a7⟩)
     have a9:=H_ (a4:w1.ownsRow W 33 5 (.slice A1 x.len c1) x.len (itc (Ck.of L x)));have z:=H_ (((Below.refl W W).drew).trans a7);have b2:=(z.out.cell (p:=⟨w,0,none⟩) HV.out.lt).trans hc;have e5:=(ap_ w1 (.cells #[.slice A1 x.len c1] 34) ⟨w,0,none⟩ (by have:=z.out.size;have:w1.drew.heap.size=w1.heap.size:=rfl;simp;omega)).trans b2;have a':=H_ (d_ a5 a6);clear a4 a7 a5 a6;refine wpAnyIn_ready (rs:=[3]) (by kernel_rfl) s_ ?_;refine AllReadyIn.cons rfl (fun K C=>?_) ?_
     ·go_simp
      refine C _ _ ?_;clear C K;refine wpAnyIn_ready (rs:=[4]) (by kernel_rfl) s_ ?_;refine AllReadyIn.cons rfl (fun K C=>?_) ?_
      ·refine oj1 rfl (.tmp 13) (.tmp 16) _ rfl (w.heap.size+3) 34 i0 _ 1 24 underlying108 b6 b7 b8 b9 rfl o_ (by have:=z.out.size;rw[F_];omega) v pre.length vs rfl ((own_below I.out z.out).alloc _) _ (some ⟨w1,0,none⟩) 1 1 [.slice A1 x.len c1] rfl (Row.new w1 #[.slice A1 x.len c1] 34 rfl) (by simp[Value.oneCell']) (pre.length+1) _ rfl rfl (by unfold maxLen;omega) o_ ?_
       intro A3 c3 w3 E O _ _ _;have HW:=H_ (d_ E O);clear E O;have Q:Boxed w1 w 108 v:=(z.out.block _ HV.out.lt).trans HV.out;obtain⟨H,J,a1,U,a0⟩:=Q.appended (by decide) (own_base (own_below I.out z.out) (aq_ _ 3)) (by have:=z.out.size;omega) l_ (own_base HW.out.1 (aq_ _ 3)) HW.out.2;have b3:=H.cell;have b5:=H.frozen;have HX:=H_ (d_ H (d_ J (d_ U a0)));clear H J a1 U a0 Q;refine C _ _ ?_;clear C K;refine wpAnyIn_ready (rs:=[5]) (by kernel_rfl) s_ ?_;refine AllReadyIn.cons rfl (fun K C=>?_) ?_
       ·go_simp
        refine C _ _ ?_;clear C K;refine wpAnyIn_done (by kernel_rfl) ?_ _
        gi_wp2
        exact qw1 _ HW.out.1 HW.out.2 z.out a9.out a'.out HX.out c9.out I.out b' d0.out
       exact AllReadyIn.nil
      exact AllReadyIn.nil
     exact AllReadyIn.nil
    exact AllReadyIn.nil
   refine AllReadyIn.cons rfl (fun K C=>?_) ?_
   ·go_simp
    gi_wp2_with (refine⟨trivial,?_⟩;gi_at_call 256;refine(CallsIn.inRound l (callsIn_wide.2 (xw1 _ x.len _ (Ck.of L x) _ o_ o_ b0.out))).mono ?_;rintro e w1 ⟨A1,c1,rfl,a4,a5,a6,a7⟩)
    have a9:=H_ (a4:w1.ownsRow W 33 5 (.slice A1 x.len c1) x.len (itc (Ck.of L x)));have z:=H_ (((Below.refl W W).drew).trans a7);have b2:=(z.out.cell (p:=⟨w,0,none⟩) HV.out.lt).trans hc;have e5:=(ap_ w1 (.cells #[.slice A1 x.len c1] 34) ⟨w,0,none⟩ (by have:=z.out.size;have:w1.drew.heap.size=w1.heap.size:=rfl;simp;omega)).trans b2;have a':=H_ (d_ a5 a6);clear a4 a7 a5 a6;refine wpAnyIn_ready (rs:=[0,3]) (by kernel_rfl) s_ ?_;refine AllReadyIn.cons rfl (fun K C=>?_) ?_
    ·go_simp
     refine C _ _ ?_;clear C K;refine wpAnyIn_ready (rs:=[3]) (by kernel_rfl) s_ ?_;refine AllReadyIn.cons rfl (fun K C=>?_) ?_
     ·go_simp
      refine C _ _ ?_;clear C K;refine wpAnyIn_ready (rs:=[4]) (by kernel_rfl) s_ ?_;refine AllReadyIn.cons rfl (fun K C=>?_) ?_
      ·refine oj1 rfl (.tmp 13) (.tmp 16) _ rfl (w.heap.size+3) 34 i0 _ 1 24 underlying108 b6 b7 b8 b9 rfl o_ (by have:=z.out.size;rw[F_];omega) v pre.length vs rfl ((own_below I.out z.out).alloc _) _ (some ⟨w1,0,none⟩) 1 1 [.slice A1 x.len c1] rfl (Row.new w1 #[.slice A1 x.len c1] 34 rfl) (by simp[Value.oneCell']) (pre.length+1) _ rfl rfl (by unfold maxLen;omega) o_ ?_
       intro A3 c3 w3 E O _ _ _;have HW:=H_ (d_ E O);clear E O;have Q:Boxed w1 w 108 v:=(z.out.block _ HV.out.lt).trans HV.out;obtain⟨H,J,a1,U,a0⟩:=Q.appended (by decide) (own_base (own_below I.out z.out) (aq_ _ 3)) (by have:=z.out.size;omega) l_ (own_base HW.out.1 (aq_ _ 3)) HW.out.2;have b3:=H.cell;have b5:=H.frozen;have HX:=H_ (d_ H (d_ J (d_ U a0)));clear H J a1 U a0 Q;refine C _ _ ?_;clear C K;refine wpAnyIn_ready (rs:=[5]) (by kernel_rfl) s_ ?_;refine AllReadyIn.cons rfl (fun K C=>?_) ?_
       ·go_simp
        refine C _ _ ?_;clear C K;refine wpAnyIn_done (by kernel_rfl) ?_ _
        gi_wp2
        exact qw1 _ HW.out.1 HW.out.2 z.out a9.out a'.out HX.out c9.out I.out b' d0.out
       exact AllReadyIn.nil
      exact AllReadyIn.nil
     exact AllReadyIn.nil
    refine AllReadyIn.cons rfl (fun K C=>?_) ?_
    ·go_simp
     refine C _ _ ?_;clear C K;refine wpAnyIn_ready (rs:=[0]) (by kernel_rfl) s_ ?_;refine AllReadyIn.cons rfl (fun K C=>?_) ?_
     ·go_simp
      refine C _ _ ?_;clear C K;refine wpAnyIn_ready (rs:=[4]) (by kernel_rfl) s_ ?_;refine AllReadyIn.cons rfl (fun K C=>?_) ?_
      ·refine oj1 rfl (.tmp 13) (.tmp 16) _ rfl (w.heap.size+3) 34 i0 _ 1 24 underlying108 b6 b7 b8 b9 rfl o_ (by have:=z.out.size;rw[F_];omega) v pre.length vs rfl ((own_below I.out z.out).alloc _) _ (some ⟨w1,0,none⟩) 1 1 [.slice A1 x.len c1] rfl (Row.new w1 #[.slice A1 x.len c1] 34 rfl) (by simp[Value.oneCell']) (pre.length+1) _ rfl rfl (by unfold maxLen;omega) o_ ?_
       intro A3 c3 w3 E O _ _ _;have HW:=H_ (d_ E O);clear E O;have Q:Boxed w1 w 108 v:=(z.out.block _ HV.out.lt).trans HV.out;obtain⟨H,J,a1,U,a0⟩:=Q.appended (by decide) (own_base (own_below I.out z.out) (aq_ _ 3)) (by have:=z.out.size;omega) l_ (own_base HW.out.1 (aq_ _ 3)) HW.out.2;have b3:=H.cell;have b5:=H.frozen;have HX:=H_ (d_ H (d_ J (d_ U a0)));clear H J a1 U a0 Q;refine C _ _ ?_;clear C K;refine wpAnyIn_ready (rs:=[5]) (by kernel_rfl) s_ ?_;refine AllReadyIn.cons rfl (fun K C=>?_) ?_
       ·go_simp
        refine C _ _ ?_;clear C K;refine wpAnyIn_done (by kernel_rfl) ?_ _
        gi_wp2
        exact qw1 _ HW.out.1 HW.out.2 z.out a9.out a'.out HX.out c9.out I.out b' d0.out
       exact AllReadyIn.nil
      exact AllReadyIn.nil
     exact AllReadyIn.nil
    exact AllReadyIn.nil
   exact AllReadyIn.nil
  exact AllReadyIn.nil
 case done=>
  rintro D ys W hD g4 ⟨⟨_,v,hv,e6⟩,hB⟩ C;have hc:=hv.cell
  gi_wp2
  have e7:=e6.kept (grownBy_putObj' W D (.deferred none)) (fun r e cs fr=>by cases e;rw[C];exact⟨nofun,nofun⟩);obtain⟨A',k',c',rfl,e9,f0⟩:∃A' k c',v=.slice A' k c'/\k<=c'/\c'<=maxLen:=by
   obtain⟨vs,h1,_⟩:=e6;obtain⟨A',c',e,h2,h3,_⟩:=ay h1;exact⟨_,_,_,e,h2,h3⟩
  obtain⟨j0,d5⟩:=e7.rows;refine⟨by simp,.inl ⟨_,_,rfl,run_takeDeferred C,?_⟩⟩;exact⟨_,results_tmp rfl _ _ _,A',k',c',rfl,e9,f0,by rw[<-g4];exact d5,hB.trans (belowK_b (w:=w) l_ W D _ _ (by simp at hD;omega) C rfl rfl)⟩
 case stop=>
  rintro D c pre W _ _ h _;exact h.elim
section
namespace Mg
def hd (ls:List (List It)) (a:Option Nat):List It->Bool
 |[]=>false
 |x::_=>match a with
  |none=>true
  |some j=>match ls.getD j [] with
   |[]=>false
   |y::_=>x.less y
def sel (ls:List (List It)):Nat->Option Nat
 |0=>none
 |k+1=>if hd ls (sel ls k) (ls.getD k [])=true then some k else sel ls k
def at_:Option Nat->Int
 |none=>-1
 |some j=>(j:Int)
def put (out:List It) (x:It):List It:=match out.getLast? with
 |none=>[x]
 |some y=>if y.same x=true then if x.wins y=true then out.dropLast++[x] else out else out++[x]
def run:Nat->List (List It)->List It->List It
 |0,_,out=>out
 |f+1,ls,out=>match sel ls ls.length with
  |none=>out
  |some j=>match ls.getD j [] with
   |[]=>out
   |x::r=>run f (ls.set j r) (put out x)
def tot (ls:List (List It)):Nat:=(ls.map List.length).sum
def rows (ls:List (List It)):List It:=run (tot ls) ls []
theorem vw3 {ls:List (List It)}:∀{k j:Nat},sel ls k=some j->j < k/\∃x r,ls.getD j []=x::r
 |k+1,j,h=>by
  unfold sel at h;split at h
  ·next o=>
   injection h with h;subst h;refine⟨o_,?_⟩
   cases e:ls.getD k [] with
   |nil=>rw[e]at o;simp[hd]at o
   |cons x r=>exact⟨x,r,rfl⟩
  ·obtain⟨h1,h2⟩:=vw3 h
   exact⟨o_,h2⟩
theorem sv3:∀{ls:List (List It)} {j:Nat} {x:It} {r:List It},j < ls.length->ls.getD j []=x::r->tot (ls.set j r)+1=tot ls
 |l::ls,0,x,r,_,h=>by
  simp only[bS_]at h;subst h;simp[tot];omega
 |l::ls,j+1,x,r,hj,h=>by
  have:=sv3 (ls:=ls) (j:=j) (x:=x) (r:=r) (by simpa using hj) (by simpa using h);simp only[tot,Q_,al_,bC_]at *;omega
theorem jq (out:List It) (x:It):(put out x).length<=out.length+1:=by
 unfold put;split
 ·simp
 ·split
  ·split
   ·simp only[e_,ce_,r_,R_];omega
   ·omega
  ·simp
theorem kj5 {ls:List (List It)} {out:List It} (h:sel ls ls.length=none) (f:Nat):run f ls out=out:=by
 cases f with
 |zero=>rfl
 |succ f=>simp only[run,h]
theorem ev5 {ls:List (List It)} {out:List It} {j:Nat} {x:It} {r:List It} (h:sel ls ls.length=some j) (o:ls.getD j []=x::r):run (tot ls) ls out=run (tot (ls.set j r)) (ls.set j r) (put out x):=by
 have hj:=(vw3 h).1;have z:=sv3 hj o;rw[<-z];simp only[run,h,o]
end Mg
attribute [local go_sem] Oper.semAt_some
section
variable {F:Fence} {n:Nat} {P:Program}
def qk5 {α:Type} (F:Fence) (n:Nat) (P:Program) (gf:Nat) (lb:Array Value) (encs:α->Array Value) (Kp:World->World->Prop) (S Sp:List α->Prop) (Nx:List α->α->Prop) (N:Nat) (w0:World):Prop:=
 ∀(l:Nat) (J Jx:List α->World->Prop) (W:World),Below w0 w0 W->(∀pre W,J pre W->J pre W.drew)->
  (∀pre x W,J pre W->pre.length < N->Nx pre x->YieldAt F (n - 1) P l (encs x) W fun e W'=>(e=.returned (.bool true)/\J (pre++[x]) W'/\Kp W W')\/(e=.returned (.bool false)/\Jx (pre++[x]) W'))->J [] W->
  CallsIn F n P gf (#[.func (.yield l) #[] #[]] ++lb) W fun e W'=>(∃v,e=.returned v)/\((∃ys,S ys/\J ys W')\/(∃pre,Sp pre/\Jx pre W'))
theorem sy1 {B l:Nat} {W:World} (z:l=B\/l=B+1) (o:Obj):Chg [B,B+1] W (W.putObj l o):=⟨rfl,rfl,rfl,by simp,fun g _ C=>O_ (fun e=>C (by subst e;rcases z with rfl|rfl<;>simp))⟩
def zv1 (B:Nat) (W W':World):Prop:=W'.heap[B]?=W.heap[B]?/\W'.heap[B+1]?=W.heap[B+1]?
def av4 {α:Type} (B:Nat) (Kp:World->World->Prop) (I:List α->World->Prop) (Ix:Code->List α->World->Prop) (xs:List α) (W:World):Exit->Act->World->Prop
 |.normal,_,W'=>zv1 B W W'/\Kp W W'/\I xs W'
 |.ret,_,W'=>zv1 B W W'/\Ix .ret xs W'
 |.exit id,_,W'=>zv1 B W W'/\Ix (.exit id) xs W'
 |.goto t,_,W'=>zv1 B W W'/\Ix (.goto t) xs W'
 |.panic _,_,_=>False
 |.outgrown,_,_=>False
def dw1 (B:Nat) (W:World):Prop:=W.heap[B]?=some (.deferred (some []))/\∃r,W.heap[B+1]?=some (.loop r)
theorem iy1 {α:Type} {g:Operand} {ps:Array Tmp} {assign body:Code} {Q:Exit->Act->World->Prop} {a:Act} {w:World}
  (d3:F.round=none) (h1:1<=n) {gf:Nat} {lb:Array Value} (hg:a.eval g=.func (.func gf) #[] lb) (d4:F.fn gf) (eg:∀args w,(callFunc gf args).run P w=.ok (.enter gf args) w)
  {encs:α->Array Value} {Kp:World->World->Prop} {S Sp:List α->Prop} {Nx:List α->α->Prop} {N:Nat} {w0:World} (b3:qk5 F (n - 1) P gf lb encs Kp S Sp Nx N w0)
  (b5:∀{A B C:World},Kp A B->Kp B C->Kp A C) (hKb:∀(W:World) (l:Nat) (o':Obj),w.heap.size<=l->Kp W (W.putObj l o')) (b6:Below w0 w0 w) (d5:∀x,(encs x).size=ps.size)
  (I:List α->World->Prop) (Ix:Code->List α->World->Prop) (hI:∀s W W',I s W->Chg [w.heap.size,w.heap.size+1] W W'->dw1 w.heap.size W'->I s W') (hIx:∀c s W W',Ix c s W->Chg [w.heap.size,w.heap.size+1] W W'->dw1 w.heap.size W'->Ix c s W') (h0:I [] w) (a₁:α->Act)
  (a1:∀(l:Nat) (x:α) (W:World) (K:Act->World->Prop),K (a₁ x) W->
   assign.wpIn (F.inRound l) (n - 1 - 1) P (Exit.then K (fun _ _ _=>False)) { tmps:=(ps.zip (encs x)).foldl (fun t (p,v)=>t.setIfInBounds p v) a.tmps,defers:=[] } W)
  (a6:∀(l:Nat) (pre:List α) (x:α) (W:World),dw1 w.heap.size W->I pre W->pre.length < N->Nx pre x->body.wpIn (F.inRound l) (n - 1 - 1) P (av4 w.heap.size Kp I Ix (pre++[x]) W) (a₁ x) W)
  (a7:∀(D:Nat) (xs:List α) (W:World),w.heap.size<=D->S xs->I xs W->W.heap[D]?=some (.deferred (some []))->D=w.heap.size->Q .normal { a with defers:={ target:=.collected D,args:=#[] }::a.defers } W)
  (a8:∀(D:Nat) (c:Code) (pre:List α) (W:World),w.heap.size<=D->Sp pre->Ix c pre W->W.heap[D]?=some (.deferred (some []))->D=w.heap.size->c.wpIn F n P Q { a with defers:={ target:=.collected D,args:=#[] }::a.defers } W):
  (Code.rangeFunc g ps assign body).wpIn F n P Q a w:=by
 refine wpIn_rangeFunc ?_;intro fn d6;rw[d3];obtain⟨rec,o⟩:∃rec:LoopState->Option Code->Loop,rec=fun st pe=>{ state:=st,pending:=pe,fn,tmps:=a.tmps,params:=ps,assign,body,defers:=w.heap.size }:=⟨_,rfl⟩;obtain⟨U,a2⟩:∃U,(w.alloc (.deferred (some []))).alloc (.loop (rec .ready none))=U:=⟨_,rfl⟩;have b8:U.heap[w.heap.size+1]?=some (.loop (rec .ready none)):=by
  rw[<-a2];have:=bI_ (w.alloc (.deferred (some []))) (.loop (rec .ready none));rwa [F_]at this
 have b9:U.heap[w.heap.size]?=some (.deferred (some [])):=by
  rw[<-a2];exact(Below.heap_alloc _ _ _ s_).trans (bI_ w _)
 have b':Below w.heap.size w U:=by
  rw[<-a2];exact((Below.refl _ w).alloc l_ _).alloc s_ _
 have d7:I [] U:=hI [] w U h0 (Chg.of_below b' _) ⟨b9,_,b8⟩;have d8:Below w0 w0 U:=b6.trans (b'.mono b6.size);refine⟨w.heap.size+1,[{ target:=.collected w.heap.size,args:=#[] }],U,{ target:=.fn (.func gf) lb,args:=#[.func (.yield (w.heap.size+1)) #[] #[]] },U,gf,
  #[.func (.yield (w.heap.size+1)) #[] #[]] ++lb,U,?_,?_,?_,?_,fun _=>h1,?_⟩
 ·rw[<-a2,o];exact run_enterLoop_outer _ _ _ _ _
 ·simp only[resolve,hg]
  simp[go_sem]
 ·intro f' c9;simp[Target.leads]at c9;subst c9;exact d4
 ·simp[invoke,go_sem,eg]
 ·refine(b3 (w.heap.size+1)
   (fun pre W=>I pre W/\W.heap[w.heap.size+1]?=some (.loop (rec .ready none))/\W.heap[w.heap.size]?=some (.deferred (some [])))
   (fun pre W=>∃c,Ix c pre W/\W.heap[w.heap.size+1]?=some (.loop (rec .done (some c)))/\W.heap[w.heap.size]?=some (.deferred (some [])))
   U d8 (fun s A hs=>⟨hI s A _ hs.1 ⟨rfl,rfl,rfl,B_ _,fun _ _ _=>rfl⟩ ⟨hs.2.2,_,hs.2.1⟩,hs.2⟩) ?_ ⟨d7,b8,b9⟩).mono ?_
  ·rintro pre x W ⟨hi,hl,hk⟩ d0 d9
   have d':w.heap.size+1 < W.heap.size:=(E_.1 hl).1;have hy:=run_yield (P:=P) (args:=encs x) hl (by rw[o];exact d5 x);rw[o]at hy;refine⟨fn,_,assign,body,hy,roundIn_of_wpIn d6 (a1 _ x W _ ⟨_,run_beginRound hl (by rw[o]),?_⟩)⟩;have a':(W.putObj (w.heap.size+1) (.loop { rec .ready none with state:=.busy })).heap[w.heap.size+1]?=some (.loop { rec .ready none with state:=.busy }):=bx_ d';have b0:(W.putObj (w.heap.size+1) (.loop { rec .ready none with state:=.busy })).heap[w.heap.size]?=some (.deferred (some [])):=(O_ o_).trans hk;have e0:Kp W (W.putObj (w.heap.size+1) (.loop { rec .ready none with state:=.busy })):=hKb _ _ _ o_;refine wpIn_mono (a6 _ pre x _ ⟨b0,_,a'⟩ (hI _ _ _ hi (sy1 (.inr rfl) _) ⟨b0,_,a'⟩) d0 d9) ?_;have fin:∀(jump:Option Code) (W3:World),zv1 w.heap.size (W.putObj (w.heap.size+1) (.loop { rec .ready none with state:=.busy })) W3->
     (Instr.endRound (w.heap.size+1) jump).run P W3=.ok (.bool jump.isNone) (W3.putObj (w.heap.size+1) (.loop (rec (if jump.isNone then .ready else .done) jump)))/\
     W3.heap[w.heap.size+1]?=some (.loop { rec .ready none with state:=.busy })/\
     (W3.putObj (w.heap.size+1) (.loop (rec (if jump.isNone then .ready else .done) jump))).heap[w.heap.size+1]?=some (.loop (rec (if jump.isNone then .ready else .done) jump))/\
     (W3.putObj (w.heap.size+1) (.loop (rec (if jump.isNone then .ready else .done) jump))).heap[w.heap.size]?=some (.deferred (some [])):=fun jump W3 H=>by
    have J:=H.2.trans a';have:=run_endRound (P:=P) jump J;rw[o]at this ⊢;exact⟨this,by rw[o]at J;exact J,bx_ (E_.1 J).1,(O_ o_).trans (H.1.trans b0)⟩
   rintro e a3 W3 hp
   cases e with
   |normal=>
    obtain⟨H,d1,O⟩:=hp;obtain⟨hr,J,z,E⟩:=fin none W3 H;exact⟨_,_,hr,.inl ⟨rfl,⟨hI _ _ _ O (sy1 (.inr rfl) _) ⟨E,_,z⟩,z,E⟩,b5 (b5 e0 d1) (hKb _ _ _ o_)⟩⟩
   |ret=>
    obtain⟨H,O⟩:=hp;obtain⟨hr,J,z,E⟩:=fin (some .ret) W3 H;exact⟨_,_,hr,.inr ⟨rfl,.ret,hIx _ _ _ _ O (sy1 (.inr rfl) _) ⟨E,_,z⟩,z,E⟩⟩
   |exit id=>
    obtain⟨H,O⟩:=hp;obtain⟨hr,J,z,E⟩:=fin (some (.exit id)) W3 H;exact⟨_,_,hr,.inr ⟨rfl,.exit id,hIx _ _ _ _ O (sy1 (.inr rfl) _) ⟨E,_,z⟩,z,E⟩⟩
   |goto t=>
    obtain⟨H,O⟩:=hp;obtain⟨hr,J,z,E⟩:=fin (some (.goto t)) W3 H;exact⟨_,_,hr,.inr ⟨rfl,.goto t,hIx _ _ _ _ O (sy1 (.inr rfl) _) ⟨E,_,z⟩,z,E⟩⟩
   |panic ch=>exact hp.elim
   |outgrown=>exact hp.elim
  ·rintro e W2 ⟨⟨v,rfl⟩,(⟨xs,hS,hi,hl,hk⟩|⟨pre,e1,c,hi,hl,hk⟩)⟩
   ·exact⟨none,_,by have:=run_endLoop (P:=P) hl (by rw[o];simp);rw[o]at this;exact this,a7 _ xs _ l_ hS (hI _ _ _ hi (sy1 (.inr rfl) _) ⟨(O_ o_).trans hk,_,bx_ (E_.1 hl).1⟩) ((O_ o_).trans hk) rfl⟩
   ·exact⟨some c,_,by have:=run_endLoop (P:=P) hl (by rw[o];simp);rw[o]at this;exact this,a8 _ c pre _ l_ e1 (hIx _ _ _ _ hi (sy1 (.inr rfl) _) ⟨(O_ o_).trans hk,_,bx_ (E_.1 hl).1⟩) ((O_ o_).trans hk) rfl⟩
end
theorem bq3 (F:Fence) (n:Nat) (h7:F.fn 132) (C:F.round=none) (hn:1<=n) (o z:Nat) (Kp:World->World->Prop) (I:∀W O,Kp W O->O.cell? o=W.cell? o/\O.cell? z=W.cell? z) (p:Addr) (A:Option Addr) (len cap m:Nat) (hA:0 < len->A=some p) (L:List It) (hL:L.length=len) (hm:1<=m) (Q:m<=1000) (E:len<=100000) (H:len<=cap) {N:Nat} (hN:∀k,k *m < len->k < N) (w:World) (U:o < (w:Nat)) (a0:z < (w:Nat))
  (a1:w.cell? o=some (.slice A len cap)) (a2:w.cell? z=some (.int .i64 m)):
  qk5 F n Tryz.prog 132 #[o,z] (fun x:Ck m len=>#[Ck.val p x]) Kp (fun ys=>ys.map (Ck.of L)=Tb.cut m len L) (fun _=>True) (fun pre x=>x.1=pre.length) N w:=fun l J Jx W hW a4 hY h0=>by
 have c1:=(hW.cell (p:=⟨o,0,none⟩) U).trans a1;have c2:=(hW.cell (p:=⟨z,0,none⟩) a0).trans a2
 rcases an_ len with h|h
 ·subst h
  exact(vk1 F n h7 C l o z cap A (fun W=>J [] W) W c1 h0).mono fun _ _ ⟨he,hj⟩=>⟨he,.inl ⟨[],by simp[Tb.cut],hj⟩⟩
 ·rw[hA h]at c1
  exact(fk3 F n h7 C hn l o z Kp I p len cap m L hL hm Q E H J Jx a4 (fun pre x W hj hl hx=>hY pre x W hj (hN _ hl) hx) W c1 c2 h0).mono fun _ _ ⟨he,h⟩=>⟨he,h.imp id fun⟨pre,h1⟩=>⟨pre,trivial,h1⟩⟩
theorem qq3 {m:Nat} (E:1<=m):∀(f:Nat) (L:List It),L.length<=f->∀k,k *m < L.length->(Tb.cut m f L)[k]?=some ((L.drop (k *m)).take m)
 |0,L,H,k,o=>o_
 |f+1,L,H,k,o=>by
  have z:L≠[]:=fun e=>by rw[e]at o;simp at o
  unfold Tb.cut;rw[if_neg z]
  cases k with
  |zero=>simp
  |succ k=>
   have C:(k+1)*m=k *m+m:=cD_ k m;rw[gE1,qq3 E f (L.drop m) (by rw[I_];omega) k (by rw[I_];omega),aW_,C,Nat.add_comm]
theorem dw1.lt {B:Nat} {w:World} (h:dw1 B w):B+1 < (w:Nat):=let ⟨_,_,h2⟩:=h;(E_.1 h2).1
theorem lw5 {m len:Nat} (o:1<=m) {L:List It} (C:L.length=len) {pre:List (Ck m len)} {x:Ck m len} (z:x.1=pre.length) (h:pre.map (Ck.of L)=(Tb.cut m len L).take pre.length):(pre++[x]).map (Ck.of L)=(Tb.cut m len L).take (pre++[x]).length:=by
 have h1:=qq3 o len L o_ x.1 (by have:=x.2;omega);rw[aK_,h,e_,ax_,<-z];obtain⟨h2,h3⟩:=C_.1 h1;rw[v_ h2,h3];rfl
end
namespace St
def writes (lev:Int):List (List It)->Sd->List ((Int×Int)×List (List It))->Sd×List ((Int×Int)×List (List It))×Nat
 |[],S,acc=>(S,acc,0)
 |r::rs,S,acc=>if (write S r).2≠0 then ((write S r).1,acc,(write S r).2) else writes lev rs (write S r).1 (acc++[((lev,number S),Tb.rows r)])
theorem py1 {lev:Int}:∀{xs bs:List (List It)} {S:Sd} {acc:List ((Int×Int)×List (List It))},writes lev (xs++bs) S acc=if (writes lev xs S acc).2.2≠0 then writes lev xs S acc else writes lev bs (writes lev xs S acc).1 (writes lev xs S acc).2.1
 |[],bs,S,acc=>rfl
 |a::xs,bs,S,acc=>by
  rw[U_]
  by_cases h:(write S a).2≠0
  ·simp only[writes,if_pos h]
  ·simp only[writes,if_neg h]
   exact py1
def drops:List Int->Sd->Sd
 |[],S=>S
 |n::r,S=>drops r (S.remove (Mn.name Mn.kTab n)).1
theorem cv3:∀{xs bs:List Int} {S:Sd},drops (xs++bs) S=drops bs (drops xs S)
 |[],_,_=>rfl
 |a::xs,bs,S=>cv3 (xs:=xs)
def mergeD (tabs:List ((Int×Int)×List (List It))) (next:List It) (V:Sv):Sv:={ V with tabs:=tabs,st:=next }
def merge (S:Sd) (V:Sv) (inn:List Int) (lev:Int) (l next:List It):Sd×Sv×Nat:=
 let a:=writes lev (Tb.cut 200 l.length l) S []
 if a.2.2≠0 then (a.1,V,a.2.2) else
 let r:=turn a.1 V ⟨inn,a.2.1.map (·.1),0,0,0,0,0⟩ (mergeD (V.tabs.filter (fun t=>!decide (t.1.2∈inn))++a.2.1) next)
 if r.2.2=0 then (drops inn r.1,r.2.1,0) else r
theorem bj4 {S S1:Sd} {V:Sv} {inn:List Int} {lev:Int} {l next:List It} {pre:List (List It)} {r:List It} {acc:List ((Int×Int)×List (List It))} (z:pre++[r]=(Tb.cut 200 l.length l).take (pre.length+1)) (C:writes lev pre S []=(S1,acc,0)) (o:(write S1 r).2≠0):
  merge S V inn lev l next=((write S1 r).1,V,(write S1 r).2):=by
 have E:Tb.cut 200 l.length l=(pre++[r])++(Tb.cut 200 l.length l).drop (pre.length+1):=by rw[z,ag_]
 have h1:writes lev (pre++[r]) S []=((write S1 r).1,acc,(write S1 r).2):=by
  rw[py1,C,if_neg s_];simp only[writes,if_pos o]
 have h2:writes lev (Tb.cut 200 l.length l) S []=((write S1 r).1,acc,(write S1 r).2):=by rw[E,py1,h1,if_pos o]
 unfold merge;simp only[h2,if_pos o]
theorem wk3 {S S1:Sd} {V:Sv} {inn:List Int} {lev:Int} {l next:List It} {acc:List ((Int×Int)×List (List It))} (o:writes lev (Tb.cut 200 l.length l) S []=(S1,acc,0)):
  merge S V inn lev l next=if (turn S1 V ⟨inn,acc.map (·.1),0,0,0,0,0⟩ (mergeD (V.tabs.filter (fun t=>!decide (t.1.2∈inn))++acc) next)).2.2=0 then (drops inn (turn S1 V ⟨inn,acc.map (·.1),0,0,0,0,0⟩ (mergeD (V.tabs.filter (fun t=>!decide (t.1.2∈inn))++acc) next)).1,(turn S1 V ⟨inn,acc.map (·.1),0,0,0,0,0⟩ (mergeD (V.tabs.filter (fun t=>!decide (t.1.2∈inn))++acc) next)).2.1,0) else turn S1 V ⟨inn,acc.map (·.1),0,0,0,0,0⟩ (mergeD (V.tabs.filter (fun t=>!decide (t.1.2∈inn))++acc) next):=by
 unfold merge;simp only[o];rw[if_neg s_]
def uv1 (S:Sd) (V:Sv) (v:Nat):Sd×Sv×Nat:=
 let a:=flush S V
 if a.2.2≠0 then a else
 if (rx1 a.2.1.st v).length=a.2.1.st.length then (a.1,a.2.1,0) else
 merge a.1 a.2.1 (a.2.1.tabs.map fun t=>t.1.2) 3 (rx1 (clean (Mg.rows (a.2.1.tabs.map fun t=>t.2.flatten))) v) (rx1 a.2.1.st v)
end St
end Go.Proofs.YtfbkjjdfboagfaaGreatDoor
