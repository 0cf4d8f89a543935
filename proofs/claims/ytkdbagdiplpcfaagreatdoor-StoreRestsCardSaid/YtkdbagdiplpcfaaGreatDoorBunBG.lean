/- Some of the texts. No conditions. -/
import Derived.Test.YtkdbagdiplpcfaaGreatDoorBunBD
import Derived.Test.YtkdbagdiplpcfaaGreatDoorBunBE
import Derived.Test.YtkdbagdiplpcfaaGreatDoorBunBC
import Derived.Test.YtkdbagdiplpcfaaGreatDoorBunBF

set_option linter.unusedSimpArgs false
set_option linter.unusedVariables false
set_option maxRecDepth 100000
set_option maxHeartbeats 16000000
namespace Go.Proofs.YtkdbagdiplpcfaaGreatDoor
open Go.Proofs.Tryz Go Go.RowKit Go.Lib Go.Shelf
namespace Gn
variable {S:Sd} {V:Sv} {c d ct:Nat} {mem st:List It}
theorem uv4 {q:Int} {S:Sd} (I:q<=1099511627776) (e:St.create (Sd.new q)=(S,some Nd.v0,0)):S.load<=1000:=by
 have J:(Sd.new q).list=[]:=by simp[Sd.list,Sd.new]
 have h1:=Sd.gq1 (Sd.new q) St.ry;have h2:(Sd.new q).load=0:=rfl;have O:(((Sd.new q).create St.ry).1.sync St.ry).1.Wf:=((Sd.ux4 q I).create St.ry).sync St.ry;have h3:=Gw.ej3 O St.first (Mn.name Mn.kMan 1)
 rw[Sd.ex1]at h3;have C:St.wipe (Sd.new q).list (Sd.new q)=(Sd.new q,0):=by rw[J];rfl
 unfold St.create at e;rw[C]at e;simp only at e;rw[if_neg s_]at e
 by_cases q1:((Sd.new q).create St.ry).2=0
 ·by_cases E:(((Sd.new q).create St.ry).1.sync St.ry).2=0
  ·by_cases H:(Gw.rewrite (((Sd.new q).create St.ry).1.sync St.ry).1 St.first (Mn.name Mn.kMan 1)).2.2=0
   ·rw[if_neg (not_not_intro q1),if_neg (not_not_intro E),if_neg (not_not_intro H)]at e
    injection e with e;rw[<-e];omega
   ·rw[if_neg (not_not_intro q1),if_neg (not_not_intro E),if_pos H]at e
    simp at e
  ·rw[if_neg (not_not_intro q1),if_pos E]at e
   simp at e
 ·rw[if_pos q1]at e
  simp at e
variable {u v:Nat}
theorem qj5 (S:Sd) (V:Sv):(St.sync S V).1.load=S.load:=by
 unfold St.sync
 repeat' split
 all_goals first|rfl|exact Sd.ex1 _ _
theorem jx5 (S:Sd) (V:Sv) (l:List It):(St.apply S V l).1.load=S.load:=by
 unfold St.apply;simp only
 repeat' split
 all_goals first|rfl|exact Sd.fv1 _ _ _
theorem ak4 (S:Sd) (V:Sv) (m:Mt):(St.setMeta S V m).1.load=S.load:=by
 unfold St.setMeta St.saved;split
 ·rfl
 ·exact qk2 _ _ _
end Gn
namespace Pl
theorem aw6 {l:List It} (h:l.length<=2000):(Tb.make l).length<=4000+40 *l.length:=by
 have h1:=Tb.sz1 20 o_ l.length l;have h2:=Tb.qk1 (Tb.rows l) (fun r C=>(Tb.ky1 20 o_ _ _ r C).2.1);have h3:=Tb.my1 0 (Tb.rows l);have h4:=Tb.tv2 l h;have h5:(Tb.rows l).length=(Tb.cut 20 l.length l).length:=rfl;unfold Tb.make;simp only[d_,Fr.vk];have E:=Pn.jq (Tb.blocks (Tb.rows l)).length;have H:=Pn.jq ((Tb.blocks (Tb.rows l)).length+((Tb.index 0 (Tb.rows l)).length+12));have I:=Pn.jq l.length;omega
def tabN (n:Int):List UInt8:=Mn.name Mn.kTab n
def logN (n:Int):List UInt8:=Mn.name Mn.kLog n
theorem fT {n:Int} (h:1<=n/\n<=1073741824):(Mn.fits n&&Mn.isKind Mn.kTab)=true:=by
 unfold Mn.fits;rw[decide_eq_true h.1,decide_eq_true h.2];decide
theorem fL {n:Int} (h:1<=n/\n<=1073741824):(Mn.fits n&&Mn.isKind Mn.kLog)=true:=by
 unfold Mn.fits;rw[decide_eq_true h.1,decide_eq_true h.2];decide
theorem dy2 {n:Int} (h:1<=n/\n<=1073741824):(tabN n).head?=some 116:=by
 unfold tabN;rw[Mn.yx (fT h)];rfl
theorem zv1 {n:Int} (h:1<=n/\n<=1073741824):(logN n).head?=some 108:=by
 unfold logN;rw[Mn.yx (fL h)];rfl
theorem rz1:(Mw.man 1).head?=some 109:=by decide+kernel
theorem oj5:Mw.kCur.head?=some 99:=by decide+kernel
theorem xk1 {s t:List UInt8} {a b:UInt8} (h1:s.head?=some a) (h2:t.head?=some b) (h:a≠b):s≠t:=fun e=>by
 subst e;rw[h1]at h2;exact h (ai_ h2)
theorem pj4 {n m:Int} (h:1<=n/\n<=1073741824) (e:tabN m=tabN n):m=n:=Mn.qz3 (fT h) e
theorem pv5 {n m:Int} (h:1<=n/\n<=1073741824) (e:logN m=logN n):m=n:=Mn.qz3 (fL h) e
theorem ww3 {l:List (List UInt8)} {k:List UInt8} {G:Int} (H:0<=G) (h:∀s∈l,∀v,Mn.number s k=some v->v<=G):Mn.greatest l k<=G:=by
 have key:∀(l:List (List UInt8)) (a:Int),a<=G->(∀s∈l,∀v,Mn.number s k=some v->v<=G)->l.foldl (fun m s=>max m ((Mn.number s k).getD 0)) a<=G:=by
  intro l
  induction l with
  |nil=>intro a h _;exact h
  |cons b l I=>
   intro a J E;refine I _ ?_ fun s hs=>E s (e_ _ hs)
   cases C:Mn.number b k with
   |none=>simp only[C,Option.getD_none];omega
   |some v=>
    have:=E b i_ v C;simp only[C,cs_];omega
 exact key l 0 H h
theorem rq3 {l:List (List UInt8)} {k s:List UInt8} {v:Int} (hs:s∈l) (h:Mn.number s k=some v):v<=Mn.greatest l k:=by
 have mono:∀(l:List (List UInt8)) (a:Int),a<=l.foldl (fun m s=>max m ((Mn.number s k).getD 0)) a:=by
  intro l
  induction l with
  |nil=>intro a;exact Int.le_refl a
  |cons b l C=>intro a;exact Int.le_trans o_ (C (max a ((Mn.number b k).getD 0)))
 have key:∀(l:List (List UInt8)) (a:Int),s∈l->v<=l.foldl (fun m s=>max m ((Mn.number s k).getD 0)) a:=by
  intro l
  induction l with
  |nil=>intro a h;cases h
  |cons b l C=>
   intro a E
   rcases f_.1 E with rfl|E
   ·refine Int.le_trans ?_ (mono l _)
    simp only[h,cs_];omega
   ·exact C _ E
 exact key l 0 hs
structure Own (S:Sd) (tabs:List ((Int×Int)×List (List It))) (lg N:Int) (m c:Nat):Prop where
 calm:Calm S
 quota:S.quota=4194304
 lg1:1<=lg/\lg<=N
 log:∃t,cont S (logN lg)=some t/\t.length<=c
 man:∃t,cont S (Mw.man 1)=some t/\t.length<=m
 tab:∀t∈tabs,1<=t.1.2/\t.1.2<=N/\∃x,cont S (tabN t.1.2)=some x/\x.length<=4000+40 *t.2.flatten.length
 own:∀s x,cont S s=some x->s=Mw.kCur/\x.length<=70000\/s=Mw.man 1\/s=logN lg\/∃t∈tabs,s=tabN t.1.2
variable {S:Sd} {tabs:List ((Int×Int)×List (List It))} {lg N:Int} {m c:Nat}
theorem Own.num (h:Own S tabs lg N m c) (Z:N<=1000000):1<=St.number S/\St.number S<=N+1/\cont S (tabN (St.number S))=none/\cont S (logN (St.number S))=none:=by
 have h0:=h.lg1;have Q:∀s∈S.list,∀v,Mn.number s Mn.kLog=some v->v<=N:=fun s hs v E=>by
  have e:=Mn.sx1 E;obtain⟨x,I⟩:=h.calm.jy1.1 hs;have J:=Mn.lv1 E (fun z=>by subst z;rw[show Mn.number [] Mn.kLog=none from rfl]at E;cases E);have C:=zv1 (n:=v) J;unfold logN at C;rw[e]at C
  rcases h.own s x I with ⟨q,_⟩|q|q|⟨t,H,q⟩
  ·rw[q,oj5]at C;simp at C
  ·rw[q,rz1]at C;simp at C
  ·rw[q]at e
   have:=pv5 (n:=lg) o_ e;omega
  ·rw[q,dy2 (by have:=h.tab t H;omega)]at C;simp at C
 have H:∀s∈S.list,∀v,Mn.number s Mn.kTab=some v->v<=N:=fun s hs v E=>by
  have e:=Mn.sx1 E;obtain⟨x,I⟩:=h.calm.jy1.1 hs;have J:=Mn.lv1 E (fun z=>by subst z;rw[show Mn.number [] Mn.kTab=none from rfl]at E;cases E);have C:=dy2 (n:=v) J;unfold tabN at C;rw[e]at C
  rcases h.own s x I with ⟨q,_⟩|q|q|⟨t,H,q⟩
  ·rw[q,oj5]at C;simp at C
  ·rw[q,rz1]at C;simp at C
  ·rw[q,zv1 o_]at C;simp at C
  ·rw[q]at e
   have h3:=h.tab t H;have:=pj4 (n:=t.1.2) o_ e;omega
 have g1:=ww3 o_ Q;have g2:=ww3 o_ H;have U:=oq1 S;have e:St.number S=max (Mn.greatest S.list Mn.kLog) (Mn.greatest S.list Mn.kTab)+1:=rfl;refine⟨U.1,o_,?_,?_⟩
 ·cases O:cont S (tabN (St.number S)) with
  |none=>rfl
  |some x=>
   have:=rq3 (h.calm.jy1.2 ⟨x,O⟩) (Mn.fx1 (fT (n:=St.number S) o_));omega
 ·cases O:cont S (logN (St.number S)) with
  |none=>rfl
  |some x=>
   have:=rq3 (h.calm.jy1.2 ⟨x,O⟩) (Mn.fx1 (fL (n:=St.number S) o_));omega
def tot (tabs:List ((Int×Int)×List (List It))):Nat:=(tabs.map fun t=>t.2.flatten.length).sum
theorem xx1 (a b:List ((Int×Int)×List (List It))):tot (a++b)=tot a+tot b:=by simp[tot]
theorem Own.weigh (h:Own S tabs lg N m c):S.names.length<=tabs.length+3/\S.used<=70000+m+c+4000 *tabs.length+40 *tot tabs:=by
 obtain⟨K,I⟩:∃K:List (List UInt8×Nat),K=(Mw.kCur,70000)::(Mw.man 1,m)::(logN lg,c)::tabs.map fun t=>(tabN t.1.2,4000+40 *t.2.flatten.length):=⟨_,rfl⟩;obtain⟨h1,h2⟩:=h.calm.weigh (K:=K) (fun s x H=>by
  rw[I]
  rcases h.own s x H with ⟨rfl,q⟩|rfl|rfl|⟨t,J,rfl⟩
  ·exact⟨70000,by simp,q⟩
  ·obtain⟨y,C,E⟩:=h.man
   rw[H]at C;exact⟨m,by simp,by rw[ai_ C];exact E⟩
  ·obtain⟨y,C,E⟩:=h.log
   rw[H]at C;exact⟨c,by simp,by rw[ai_ C];exact E⟩
  ·obtain⟨_,_,y,C,E⟩:=h.tab t J
   rw[H]at C;exact⟨_,.tail _ (.tail _ (.tail _ (W_.2 ⟨t,J,rfl⟩))),by rw[ai_ C];exact E⟩)
 have key:∀l:List ((Int×Int)×List (List It)),((l.map fun t=>(tabN t.1.2,4000+40 *t.2.flatten.length)).map (·.2)).sum=4000 *l.length+40 *tot l:=fun l=>by
  induction l with
  |nil=>rfl
  |cons a l O=>
   simp only[Z_,aI_,O,tot,q_];omega
 rw[I]at h1 h2;simp only[q_,F_,Z_,aI_,key]at h1 h2;omega
theorem Own.add (h:Own S tabs lg N m c) (hN:N<=1000000) {S2:Sd} (J:Calm S2) (O:S2.quota=S.quota) {n lev:Int} {x:List UInt8} {r:List (List It)} (H:1<=n/\n<=N+1) (Q:cont S (tabN n)=none) (e:cont S2=upd (cont S) (tabN n) (some x)) (U:x.length<=4000+40 *r.flatten.length):
  Own S2 (tabs++[((lev,n),r)]) lg (N+1) m c:=by
 have Z:=h.lg1;have h1:∀s,s≠tabN n->cont S2 s=cont S s:=fun s hs=>by rw[e,upd,if_neg hs]
 have I:=dy2 (n:=n) o_;refine⟨J,by rw[O];exact h.quota,o_,?_,?_,fun t C=>?_,fun s y E=>?_⟩
 ·rw[h1 _ (xk1 (zv1 o_) I (by decide))]
  exact h.log
 ·rw[h1 _ (xk1 rz1 I (by decide))]
  exact h.man
 ·rcases k_.1 C with C|C
  ·obtain⟨a,b,y,E,hl⟩:=h.tab t C
   refine⟨a,o_,y,?_,hl⟩;rw[h1 _ fun q=>by rw[q,Q]at E;cases E];exact E
  ·rw[a_.1 C]
   exact⟨H.1,H.2,x,by rw[e,upd,if_pos rfl],U⟩
 ·by_cases hs:s=tabN n
  ·exact .inr (.inr (.inr ⟨_,k_.2 (.inr (a_.2 rfl)),hs⟩))
  ·rw[h1 s hs]at E
   rcases h.own s y E with q|q|q|⟨t,C,q⟩
   ·exact .inl q
   ·exact .inr (.inl q)
   ·exact .inr (.inr (.inl q))
   ·exact .inr (.inr (.inr ⟨t,k_.2 (.inl C),q⟩))
theorem Own.write (h:Own S tabs lg N m c) (H:N<=1000000) {l:List It} (hl:l.length<=2000) (ht:tabs.length<=59) (hw:m+c+4000 *tabs.length+40 *tot tabs<=4000000) (lev:Int):
  ∃S',St.write S l=(S',0)/\Own S' (tabs++[((lev,St.number S),Tb.rows l)]) lg (N+1) m c:=by
 obtain⟨I,J,E,n4⟩:=h.num H;obtain⟨w1,w2⟩:=h.weigh;have O:=aw6 hl;obtain⟨n,hn⟩:=n_ (St.number S);rw[<-hn]at I J E n4 ⊢;have C:Sd.named (tabN n)=true:=Mn.cw1 (fT o_);obtain⟨a1,a2,a3,Q⟩:=h.calm.create C E o_;have o1:=h.add (lev:=lev) (r:=[]) H a2 Q ⟨I,J⟩ E a3 s_;obtain⟨w3,w4⟩:=o1.weigh;rw[xx1,d_]at w4;have t0:tot [((lev,n),([]:List (List It)))]=0:=rfl;have hq:=h.quota;have U:cont (S.create (tabN n)).1 (tabN n)=some []:=by rw[a3,upd,if_pos rfl]
 obtain⟨b1,b2,b3,b4⟩:=a2.append C U (Tb.make l) (by simp only[V_];omega) (by rw[Q,hq];simp only[ad_]at w4;omega);have Z:cont ((S.create (tabN n)).1.append (tabN n) (Tb.make l)).1 (tabN n)=some (Tb.make l):=by rw[b3,upd,if_pos rfl];rfl
 obtain⟨c1,c2,c3,c4⟩:=b2.sync C Z;refine⟨(((S.create (tabN n)).1.append (tabN n) (Tb.make l)).1.sync (tabN n)).1,?_,h.add H c2 (by rw[c4,b4,Q]) ⟨I,J⟩ E (x:=Tb.make l) ?_ (by rw[Tb.fq1];exact O)⟩
 ·unfold St.write
  rw[<-hn,if_neg o_,if_neg (by rw[show Mn.name Mn.kTab n=tabN n from rfl,a1];simp)];simp only[show Mn.name Mn.kTab n=tabN n from rfl,b1];rw[if_neg s_];exact Prod.ext rfl c1
 ·rw[c3,b3,a3]
  funext s
  unfold upd;split<;>rfl
theorem Own.fresh (h:Own S tabs lg N m c) (J:N<=1000000) (ht:tabs.length<=59):
  ∃S',St.fresh S=(S',0)/\Calm S'/\S'.quota=S.quota/\cont S'=upd (cont S) (logN (St.number S)) (some []):=by
 obtain⟨O,Q,U,H⟩:=h.num J;obtain⟨w1,w2⟩:=h.weigh;obtain⟨n,I⟩:=n_ (St.number S);rw[<-I]at O Q U H ⊢;have C:Sd.named (logN n)=true:=Mn.cw1 (fL o_);obtain⟨Z,a2,a3,a4⟩:=h.calm.create C H o_;have E:cont (S.create (logN n)).1 (logN n)=some []:=by rw[a3,upd,if_pos rfl]
 obtain⟨c1,c2,c3,c4⟩:=a2.sync C E;refine⟨((S.create (logN n)).1.sync (logN n)).1,?_,c2,by rw[c4,a4],by rw[c3,a3]⟩;unfold St.fresh;rw[<-I,if_neg o_,if_neg (by rw[show Mn.name Mn.kLog n=logN n from rfl,Z];simp)];exact Prod.ext rfl c1
end Pl
namespace Pl
variable {S:Sd} {V:Sv} {tabs:List ((Int×Int)×List (List It))} {lg N:Int} {m c:Nat}
theorem oy4 {M:Gs} {E:Ed} {t:List UInt8} {O:Vw} (Q:Calm S) (U:cont S (Mw.man 1)=some t) (H:M.name=Mw.man 1) (J:M.broken=false) (C:E.may=true) (I:M.v.app E=some O) (h1:t.length+2012<=250000) (h2:S.used+2012<=S.quota):
  ∃S' x,Gw.save S M E=(S',{ M with count:=M.count+1,v:=O },0)/\Calm S'/\S'.quota=S.quota/\cont S'=upd (cont S) (Mw.man 1) (some x)/\x.length<=t.length+2012:=by
 have d3:Sd.named (Mw.man 1)=true:=by decide+kernel
 have Z:=Ed.wy2 C;obtain⟨f1,f2,f3,f4⟩:=Q.append d3 U E.rec_ o_ o_;obtain⟨g1,g2,g3,g4⟩:=f2.sync d3 (x:=t++E.rec_) (by rw[f3,upd,if_pos rfl]);refine⟨((S.append (Mw.man 1) E.rec_).1.sync (Mw.man 1)).1,t++E.rec_,?_,g2,by rw[g4,f4],by rw[g3,f3],by rw[d_];omega⟩;unfold Gw.save;rw[if_neg (by rw[J];simp),if_neg (by rw[C];simp),I];simp only;unfold Gw.put;rw[H,if_neg (by simp[f1]),if_neg (by simp[g1])]
theorem rz4 {J:Ed} {t:List UInt8} {Q:Vw} (D:Sv->Sv) (hc:Calm S) (hm:cont S (Mw.man 1)=some t) (C:V.M.name=Mw.man 1) (E:V.M.broken=false) (ho:V.only=false) (H:J.may=true) (I:V.M.v.app J=some Q) (h1:t.length+2012<=250000) (h2:S.used+2012<=S.quota):
  ∃S' x,St.turn S V J D=(S',D { V with M:={ V.M with count:=V.M.count+1,v:=Q } },0)/\Calm S'/\S'.quota=S.quota/\cont S'=upd (cont S) (Mw.man 1) (some x)/\x.length<=t.length+2012:=by
 obtain⟨e1,U,O,Z⟩:=hc.ax;have hu:=(U.iq4 O).1;obtain⟨S',x,a1,a2,a3,a4,a5⟩:=oy4 U (by rw[O];exact hm) C E H I h1 (by rw[Z];omega);refine⟨S',x,?_,a2,by rw[a3,Z],by rw[a4,O],a5⟩;unfold St.turn;rw[if_neg (by rw[e1];simp)];unfold St.saved;rw[a1];simp only[true_or,if_true,ho,E,cn_]
def Vlog (V:Sv) (n:Int) (add:List (Int×Int)):Vw:={ V.M.v with log:=n,files:=V.M.v.files++add }
theorem tj5 {n:Int} {add:List (Int×Int)} (E:1<=n/\n<=1073741824) (C:(Vlog V n add).ok=true):V.M.v.app ⟨[],add,n,0,0,0,0⟩=some (Vlog V n add):=by
 unfold Vw.app dropAll orElse Vlog at *;simp only[if_true];rw[if_neg (show ¬n=0 by omega),if_pos C]
theorem iq3 {add:List (Int×Int)} (h:Own S tabs V.M.v.log N m c) (hN:N<=1000000) (H:V.M.name=Mw.man 1) (a6:V.M.broken=false) (ho:V.only=false) (ht:tabs.length<=59) (hw:m+c+4000 *tabs.length+40 *tot tabs<=4000000) (hm:m<=240000) (E:add.length<=40/\add.all xq=true) (O:(Vlog V (St.number S) add).ok=true):
  ∃S',St.by1 S V add tabs=(S',{ V with M:={ V.M with count:=V.M.count+1,v:=Vlog V (St.number S) add },nm:=logN (St.number S),sz:=0,ct:=0,mem:=[],tabs:=tabs },0)/\Own S' tabs (St.number S) (N+1) (m+2012) c:=by
 obtain⟨n1,n2,n3,n4⟩:=h.num hN;obtain⟨w1,w2⟩:=h.weigh;obtain⟨S1,f1,f2,f3,f4⟩:=h.fresh hN ht;obtain⟨n,hn⟩:=n_ (St.number S);rw[<-hn]at n1 n2 n3 n4 f4 O ⊢;have hl:=h.lg1;have hq:=h.quota;obtain⟨t,a7,b9⟩:=h.man;obtain⟨lt,I,_⟩:=h.log;have Q:=zv1 (n:=n) o_;have U:=zv1 (n:=V.M.v.log) o_;have Z:logN V.M.v.log≠logN n:=fun e=>by rw[e,n4]at I;cases I
 have a0:Mw.man 1≠logN n:=xk1 rz1 Q (by decide);have a1:Mw.man 1≠logN V.M.v.log:=xk1 rz1 U (by decide);have hu:=(f2.bz5 (x:=[]) f4 (fun y C=>by injection C with C;rw[<-C];exact y_ _)).1;simp only[V_]at hu;have a2:(⟨[],add,n,0,0,0,0⟩:Ed).may=true:=by
  unfold Ed.may;simp only[V_,List.all_nil,E.2,decide_eq_true E.1,decide_eq_true (show (0:Int)<=n by omega),decide_eq_true (show n<=1073741824 by omega)];rfl
 obtain⟨S2,x,g1,g2,g3,g4,g5⟩:=rz4 (V:=V) (St.turned n tabs) f2 (t:=t) (by rw[f4,upd,if_neg a0];exact a7) H a6 ho a2 (tj5 o_ O) o_ (by rw[f3,hq];omega);obtain⟨r1,r2,r3,r4⟩:=g2.remove (Mn.cw1 (fL (n:=V.M.v.log) o_)) (x:=lt) (by
  rw[g4,upd,if_neg (show Mn.name Mn.kLog V.M.v.log≠_ from a1.symm),f4,upd,if_neg (show Mn.name Mn.kLog V.M.v.log≠_ from Z)];exact I)
 have e:∀s,s≠logN V.M.v.log->s≠Mw.man 1->s≠logN n->cont (S2.remove (logN V.M.v.log)).1 s=cont S s:=fun s a b d=>by
  show cont (S2.remove (Mn.name Mn.kLog V.M.v.log)).1 s=_
  rw[r3,upd,if_neg (show s≠Mn.name Mn.kLog V.M.v.log from a),g4,upd,if_neg b,f4,upd,if_neg d]
 have em:cont (S2.remove (logN V.M.v.log)).1 (Mw.man 1)=some x:=by
  show cont (S2.remove (Mn.name Mn.kLog V.M.v.log)).1 _=_
  rw[r3,upd,if_neg (show Mw.man 1≠Mn.name Mn.kLog V.M.v.log from a1),g4,upd,if_pos rfl]
 have el:cont (S2.remove (logN V.M.v.log)).1 (logN n)=some []:=by
  show cont (S2.remove (Mn.name Mn.kLog V.M.v.log)).1 _=_
  rw[r3,upd,if_neg (show logN n≠Mn.name Mn.kLog V.M.v.log from Z.symm),g4,upd,if_neg a0.symm,f4,upd,if_pos rfl]
 have eo:cont (S2.remove (logN V.M.v.log)).1 (logN V.M.v.log)=none:=by
  show cont (S2.remove (Mn.name Mn.kLog V.M.v.log)).1 _=_
  rw[r3,upd,if_pos (show logN V.M.v.log=Mn.name Mn.kLog V.M.v.log from rfl)]
 refine⟨(S2.remove (logN V.M.v.log)).1,?_,r2,by rw[show (S2.remove (logN V.M.v.log)).1.quota=_ from r4,g3,f3,hq],⟨n1,n2⟩,⟨[],el,w_ _⟩,⟨x,em,o_⟩,fun u hu=>?_,fun s y C=>?_⟩
 ·unfold St.by1
  rw[f1,<-hn];simp only[ne_eq,not_true_eq_false,if_false];rw[g1];rfl
 ·obtain⟨a,b,y,C,a9⟩:=h.tab u hu
  have J:=dy2 (n:=u.1.2) o_;refine⟨a,o_,y,?_,a9⟩;rw[e _ (xk1 J U (by decide)) (xk1 J rz1 (by decide)) (xk1 J Q (by decide))];exact C
 ·by_cases a:s=logN V.M.v.log
  ·rw[a,eo]at C;cases C
  by_cases b:s=Mw.man 1
  ·exact .inr (.inl b)
  by_cases d:s=logN n
  ·exact .inr (.inr (.inl d))
  rw[e s a b d]at C
  rcases h.own s y C with q|q|q|q
  ·exact .inl q
  ·exact absurd q b
  ·exact absurd q a
  ·exact .inr (.inr (.inr q))
theorem yk1 {f:Int×Int}:∀{l:List (Int×Int)},apart l=true->(∀g∈l,g.2≠f.2)->apart (l++[f])=true
 |[],_,_=>rfl
 |a::l,h,C=>by
  unfold apart at h;rw[G_]at h;rw[T_];unfold apart;rw[yk1 h.2 fun g E=>C g (e_ _ E),Bool.and_true,bj_,h.1];have:f.2≠a.2:=fun e=>C a i_ e.symm;simp[this]
structure Plv (S:Sd) (V:Sv) (N:Int) (m c:Nat):Prop where
 own:Own S V.tabs V.M.v.log N m c
 name:V.M.name=Mw.man 1
 br:V.M.broken=false
 only:V.only=false
 ok:V.M.v.ok=true
 files:V.M.v.files=V.tabs.map (·.1)
 nm:V.nm=logN V.M.v.log
theorem Plv.xy4 (h:Plv S V N m c) (H:N<=1000000):∀g∈V.M.v.files,g.2≠St.number S:=fun g C e=>by
 obtain⟨_,_,I,_⟩:=h.own.num H;rw[h.files]at C;obtain⟨t,J,rfl⟩:=W_.1 C;obtain⟨_,_,x,E,_⟩:=h.own.tab t J;rw[e,I]at E
 cases E
theorem rw4 {n:Int} (h:V.M.v.ok=true) (C:1<=n/\n<=1073741824):(Vlog V n []).ok=true:=by
 unfold Vw.ok Vlog at *;simp only[G_,decide_eq_true_eq,ak_]at h ⊢;exact⟨⟨⟨⟨by unfold isNum;rw[decide_eq_true C.1,decide_eq_true C.2];rfl,h.1.1.1.2⟩,h.1.1.2⟩,h.1.2⟩,h.2⟩
theorem fy5 {n k:Int} (h:V.M.v.ok=true) (C:1<=n/\n<=1073741824) (E:1<=k/\k<=1073741824) (I:V.M.v.files.length < 40) (H:∀g∈V.M.v.files,g.2≠k):(Vlog V n [(0,k)]).ok=true:=by
 unfold Vw.ok Vlog at *;simp only[G_,decide_eq_true_eq,d_,ad_,bj_]at h ⊢;exact⟨⟨⟨⟨by unfold isNum;rw[decide_eq_true C.1,decide_eq_true C.2];rfl,o_⟩,h.1.1.2⟩,h.1.2,by unfold xq isNum;simp[E.1,E.2]⟩,yk1 h.2 H⟩
structure Fl (V V':Sv) (k:Nat):Prop where
 st:V'.st=V.st
 mem:V'.mem=[]
 ct:V'.ct=0
 tot:tot V'.tabs=tot V.tabs+k
 len:V'.tabs.length<=V.tabs.length+1
 few:V.tabs.length < 30
 cv1:St.cv1 V'=St.cv1 V
 count:V'.M.count=V.M.count+1
theorem sw3 (h:Plv S V N m c) (hN:N<=900000) (hm:m<=240000) (hl:(St.live V).length<=2000) (hw:m+c+4000 *31+40 *(tot V.tabs+(St.live V).length)<=4000000):
  V.ct=0/\St.flush S V=(S,V,0)\/V.ct≠0/\30<=V.tabs.length/\St.flush S V=(S,V,65)\/V.ct≠0/\∃S' V',St.flush S V=(S',V',0)/\Plv S' V' (N+2) (m+2012) c/\Fl V V' (St.live V).length:=by
 unfold St.flush;rw[if_neg (by rw[h.only];simp)]
 by_cases C:V.ct=0
 ·rw[if_pos C]
  exact .inl ⟨C,rfl⟩
 rw[if_neg C]
 by_cases h1:30<=V.tabs.length
 ·rw[if_pos h1]
  exact .inr (.inl ⟨C,h1,rfl⟩)
 rw[if_neg h1];refine .inr (.inr ⟨C,?_⟩);have a1:V.M.v.files.length=V.tabs.length:=by rw[h.files,F_]
 by_cases h2:St.live V=[]
 ·rw[if_pos h2]
  obtain⟨O,Z,_,_⟩:=h.own.num o_;obtain⟨S',e,o⟩:=iq3 (V:=V) (add:=[]) h.own o_ h.name h.br h.only o_ o_ o_ ⟨by simp,rfl⟩ (rw4 h.ok o_);refine⟨S',_,e,⟨⟨o.calm,o.quota,⟨o.lg1.1,by have:=o.lg1.2;show St.number S<=_;omega⟩,o.log,o.man,fun t J=>?_,o.own⟩,h.name,h.br,h.only,rw4 h.ok o_,by show V.M.v.files++[]=_;rw[ak_];exact h.files,rfl⟩,⟨rfl,rfl,rfl,by rw[h2];rfl,cB_ _,o_,rfl,rfl⟩⟩;obtain⟨a,b,q⟩:=o.tab t J;exact⟨a,o_,q⟩
 ·rw[if_neg h2]
  obtain⟨O,Z,n3,_⟩:=h.own.num o_;obtain⟨S1,e1,Q⟩:=h.own.write o_ hl o_ o_ 0;have E:=h.xy4 o_;obtain⟨k,hk⟩:=n_ (St.number S);rw[e1];simp only[ne_eq,not_true_eq_false,if_false];rw[<-hk]at O Z E Q ⊢;obtain⟨q1,q2,_,_⟩:=Q.num o_;have J:tot (V.tabs++[((0,k),Tb.rows (St.live V))])=tot V.tabs+(St.live V).length:=by
   have:tot [((0,k),Tb.rows (St.live V))]=(St.live V).length:=by
    show (Tb.rows (St.live V)).flatten.length+0=_
    rw[Tb.fq1];rfl
   rw[xx1,this]
  have H:(V.tabs++[((0,k),Tb.rows (St.live V))]).length=V.tabs.length+1:=by simp
  have U:m+c+4000 *(V.tabs++[((0,k),Tb.rows (St.live V))]).length+40 *tot (V.tabs++[((0,k),Tb.rows (St.live V))])<=4000000:=by
   rw[J,H];omega
  have I:=fy5 (n:=St.number S1) (k:=k) h.ok o_ o_ o_ E;obtain⟨S',e,o⟩:=iq3 (V:=V) (add:=[(0,k)]) Q o_ h.name h.br h.only (by rw[H];omega) U o_ ⟨by show 1<=40;omega,by
   show (xq (0,k) &&true)=true
   unfold xq isNum;rw[decide_eq_true O,decide_eq_true (show k<=1073741824 by omega)];rfl⟩ I
  refine⟨S',_,e,⟨?_,h.name,h.br,h.only,I,by show V.M.v.files++_=_;rw[h.files];simp,rfl⟩,⟨rfl,rfl,rfl,J,by rw[d_];exact y_ _,o_,rfl,rfl⟩⟩;show Own S' _ _ (N+2) _ _
  rw[show N+2=N+1+1 by omega];exact o
end Pl
namespace Pl
variable {S:Sd} {V:Sv} {tabs:List ((Int×Int)×List (List It))} {lg N:Int} {m c:Nat}
theorem ay1:∀{l:List (Int×Int)},apart l=true↔l.Pairwise fun a b=>a.2≠b.2
 |[]=>by simp[apart]
 |a::l=>by
  unfold apart;rw[G_,ay1,U_,ab_];refine and_congr_left fun _=>⟨fun h g C e=>?_,fun h g C=>?_⟩
  ·have:=h g C
   simp[e]at this
  ·have:=h g C
   simp only[av_,beq_eq_false_iff_ne,ne_eq];exact fun e=>this e.symm
theorem aj2 {n:Int}:∀{l:List (Int×Int)},apart l=true->(l.eraseP fun f=>f.2==n)=l.filter fun f=>!decide (f.2=n)
 |[],_=>rfl
 |a::l,h=>by
  rw[ay1,U_]at h
  by_cases e:a.2=n
  ·have:(l.filter fun f=>!decide (f.2=n))=l:=az_.2 fun g C=>by
    have:=h.1 g C;simp only[av_,decide_eq_false_iff_not];exact fun z=>this (e.trans z.symm)
   rw[List.eraseP_cons_of_pos (by simp[e]),List.filter_cons_of_neg (by simp[e]),this]
  ·rw[List.eraseP_cons_of_neg (by simp[e]),List.filter_cons_of_pos (by simp[e]),aj2 (ay1.2 h.2)]
theorem zv2 {l:List (Int×Int)} (p:Int×Int->Bool) (h:apart l=true):apart (l.filter p)=true:=ay1.2 ((ay1.1 h).filter p)
theorem oq2:∀{inn:List Int} {fs:List (Int×Int)},apart fs=true->inn.Nodup->(∀n∈inn,∃f∈fs,f.2=n)->dropAll inn fs=some (fs.filter fun f=>!decide (f.2∈inn))
 |[],fs,_,_,_=>by
  unfold dropAll;rw[az_.2 (fun _ _=>by simp)]
 |n::r,fs,h,H,hi=>by
  obtain⟨h1,h2⟩:=aW_.1 H;obtain⟨f,I,e⟩:=hi n i_;unfold dropAll;rw[if_pos (ay_.2 ⟨f,I,by simp[e]⟩),aj2 h,oq2 (zv2 _ h) h2 fun k C=>?_,List.filter_filter]
  ·congr 1
   refine List.filter_congr fun g _=>?_
   by_cases a:g.2=n<;>by_cases b:g.2∈r<;>simp[a,b]
  ·obtain⟨g,J,E⟩:=hi k (e_ _ C)
   refine⟨g,P_.2 ⟨J,?_⟩,E⟩;simp only[av_,decide_eq_false_iff_not];intro z;rw[<-z,E]at h1;exact h1 C
theorem Own.vw5 (h:Own S tabs lg N m c) (E:N<=1000000):∀g∈tabs.map (·.1),g.2≠St.number S:=fun g H e=>by
 obtain⟨_,_,I,_⟩:=h.num E;obtain⟨t,J,rfl⟩:=W_.1 H;obtain⟨_,_,x,C,_⟩:=h.tab t J;rw[e,I]at C
 cases C
theorem dy3 (lev:Int):∀(rs:List (List It)) {S:Sd} {acc:List ((Int×Int)×List (List It))} {N:Int},Own S (tabs++acc) lg N m c->N+rs.length<=900000->(∀r∈rs,r.length<=200)->(tabs++acc).length+rs.length<=59->m+c+4000 *((tabs++acc).length+rs.length)+40 *(tot (tabs++acc)+rs.flatten.length)<=4000000->apart ((tabs++acc).map (·.1))=true->
  ∃S' C,St.writes lev rs S acc=(S',C,0)/\Own S' (tabs++C) lg (N+rs.length) m c/\C.length=acc.length+rs.length/\tot C=tot acc+rs.flatten.length/\apart ((tabs++C).map (·.1))=true/\∀t∈C,t∈acc\/t.1.1=lev
 |[],S,acc,N,h,_,_,_,_,I=>⟨S,acc,rfl,by simpa using h,rfl,rfl,I,fun t J=>.inl J⟩
 |r::rs,S,acc,N,h,hN,Z,hl,hw,I=>by
  simp only[q_,bB_,d_]at hl hw hN;have a0:=Z r i_;obtain⟨S1,e1,O⟩:=h.write o_ (l:=r) o_ (by rw[d_];omega) (by rw[d_];omega) lev;have E:=h.vw5 o_;obtain⟨n,hn⟩:=n_ (St.number S);rw[<-hn]at O E;rw[K_]at O;have H:tot [((lev,n),Tb.rows r)]=r.length:=by
   show (Tb.rows r).flatten.length+0=_
   rw[Tb.fq1];rfl
  have Q:tot (tabs++(acc++[((lev,n),Tb.rows r)]))=tot (tabs++acc)+r.length:=by rw[<-K_,xx1,H]
  have U:apart ((tabs++(acc++[((lev,n),Tb.rows r)])).map (·.1))=true:=by
   rw[<-K_,am_];exact yk1 I E
  obtain⟨S',C,e2,o2,l2,t2,a2,v2⟩:=dy3 lev rs O o_ (fun x hx=>Z x (e_ _ hx)) (by simp only[d_,ad_];omega) (by rw[Q];simp only[d_,ad_];omega) U;refine⟨S',C,?_,?_,?_,?_,a2,fun t J=>?_⟩
  ·unfold St.writes
   rw[e1,if_neg s_,<-hn];exact e2
  ·rw[show N+((r::rs).length:Nat)=N+1+(rs.length:Nat) by simp only[q_];omega]
   exact o2
  ·simp only[l2,d_,q_,V_]
   omega
  ·rw[t2,xx1,H,bB_,d_]
   omega
  ·rcases v2 t J with q|q
   ·rcases k_.1 q with q|q
    ·exact .inl q
    ·rw[a_.1 q]
     exact .inr rfl
   ·exact .inr q
theorem Own.drop (h:Own S tabs lg N m c) (hN:N<=1000000) {n:Int} (hi:∃t∈tabs,t.1.2=n):Own (S.remove (tabN n)).1 (tabs.filter fun t=>!decide (t.1.2=n)) lg N m c:=by
 obtain⟨t,U,rfl⟩:=hi;obtain⟨a,b,x,Z,_⟩:=h.tab t U;have hl:=h.lg1;have O:=dy2 (n:=t.1.2) o_;obtain⟨r1,r2,Q,r4⟩:=h.calm.remove (Mn.cw1 (fT (n:=t.1.2) o_)) Z;have e:∀s,s≠tabN t.1.2->cont (S.remove (tabN t.1.2)).1 s=cont S s:=fun s hs=>by
  show cont (S.remove (Mn.name Mn.kTab t.1.2)).1 s=_
  rw[Q,upd,if_neg (show s≠Mn.name Mn.kTab t.1.2 from hs)]
 have e0:cont (S.remove (tabN t.1.2)).1 (tabN t.1.2)=none:=by
  show cont (S.remove (Mn.name Mn.kTab t.1.2)).1 _=_
  rw[Q,upd,if_pos (show tabN t.1.2=Mn.name Mn.kTab t.1.2 from rfl)]
 refine⟨r2,by rw[show (S.remove (tabN t.1.2)).1.quota=_ from r4];exact h.quota,hl,?_,?_,fun u H=>?_,fun s y C=>?_⟩
 ·rw[e _ (xk1 (zv1 o_) O (by decide))]
  exact h.log
 ·rw[e _ (xk1 rz1 O (by decide))]
  exact h.man
 ·obtain⟨I,E⟩:=P_.1 H
  simp only[av_,decide_eq_false_iff_not]at E;obtain⟨a',b',y,C,J⟩:=h.tab u I;refine⟨a',b',y,?_,J⟩;rw[e _ fun q=>E (pj4 o_ q)];exact C
 ·by_cases hs:s=tabN t.1.2
  ·rw[hs,e0]at C;cases C
  ·rw[e s hs]at C
   rcases h.own s y C with q|q|q|⟨u,H,q⟩
   ·exact .inl q
   ·exact .inr (.inl q)
   ·exact .inr (.inr (.inl q))
   ·refine .inr (.inr (.inr ⟨u,P_.2 ⟨H,?_⟩,q⟩))
    simp only[av_,decide_eq_false_iff_not];intro z;rw[z]at q;exact hs q
theorem xq3:∀{inn:List Int} {S:Sd} {tabs:List ((Int×Int)×List (List It))},Own S tabs lg N m c->N<=1000000->inn.Nodup->(∀n∈inn,∃t∈tabs,t.1.2=n)->Own (St.drops inn S) (tabs.filter fun t=>!decide (t.1.2∈inn)) lg N m c
 |[],S,tabs,h,_,_,_=>by
  rw[az_.2 (fun _ _=>by simp)];exact h
 |n::r,S,tabs,h,C,H,hi=>by
  obtain⟨h1,h2⟩:=aW_.1 H;have o:=xq3 (h.drop C (hi n i_)) C h2 (fun k E=>by
   obtain⟨t,I,e⟩:=hi k (e_ _ E);refine⟨t,P_.2 ⟨I,?_⟩,e⟩;simp only[av_,decide_eq_false_iff_not];intro z;rw[<-z,e]at h1;exact h1 E)
  rw[List.filter_filter]at o;have e:(tabs.filter fun t=>!decide (t.1.2∈r) &&!decide (t.1.2=n))=tabs.filter fun t=>!decide (t.1.2∈n::r):=List.filter_congr fun g _=>by
   by_cases a:g.1.2=n<;>by_cases b:g.1.2∈r<;>simp[a,b]
  rw[<-e];exact o
theorem Own.pv4 (h:Own S tabs lg N m c) {S2:Sd} (U:N<=1000000) (H:Calm S2) (I:S2.quota=S.quota) {x:List UInt8} {m2:Nat} (e:cont S2=upd (cont S) (Mw.man 1) (some x)) (J:x.length<=m2):Own S2 tabs lg N m2 c:=by
 have O:=h.lg1;have E:∀s,s≠Mw.man 1->cont S2 s=cont S s:=fun s hs=>by rw[e,upd,if_neg hs]
 refine⟨H,by rw[I];exact h.quota,O,?_,⟨x,by rw[e,upd,if_pos rfl],J⟩,fun t Q=>?_,fun s y C=>?_⟩
 ·rw[E _ (xk1 (zv1 o_) rz1 (by decide))]
  exact h.log
 ·obtain⟨a,b,y,C,q⟩:=h.tab t Q
  exact⟨a,b,y,by rw[E _ (xk1 (dy2 o_) rz1 (by decide))];exact C,q⟩
 ·by_cases hs:s=Mw.man 1
  ·exact .inr (.inl hs)
  ·rw[E s hs]at C
   exact h.own s y C
structure Mgd (V V':Sv) (inn:List Int) (next:List It) (k n:Nat):Prop where
 st:V'.st=next
 mem:V'.mem=V.mem
 ct:V'.ct=V.ct
 tot:tot V'.tabs=tot (V.tabs.filter fun t=>!decide (t.1.2∈inn))+n
 len:V'.tabs.length=(V.tabs.filter fun t=>!decide (t.1.2∈inn)).length+k
 cv1:St.cv1 V'=St.cv1 V
 count:V'.M.count=V.M.count+1
theorem ny2 (h:Plv S V N m c) {inn:List Int} {lev:Int} {l next:List It} {k:Nat} (hk:k=(Tb.cut 200 l.length l).length) (hN:N+k<=900000) (hm:m<=240000) (hn:inn.Nodup) (hi:∀n∈inn,∃t∈V.tabs,t.1.2=n) (b1:inn.length<=40) (O:0<=lev/\lev<=3)
  (h1:V.tabs.length+k<=59) (h2:(V.tabs.filter fun t=>!decide (t.1.2∈inn)).length+k<=40) (hw:m+c+4000 *(V.tabs.length+k)+40 *(tot V.tabs+l.length)<=4000000):
  ∃S' V',St.merge S V inn lev l next=(S',V',0)/\Plv S' V' (N+k) (m+2012) c/\Mgd V V' inn next k l.length:=by
 have Z:(Tb.cut 200 l.length l).flatten=l:=Tb.xy2 200 o_ _ _ l_;have C:=h.ok;unfold Vw.ok at C;simp only[G_,decide_eq_true_eq]at C;obtain⟨S1,acc,e1,Q,l1,t1,a1,v1⟩:=dy3 (tabs:=V.tabs) lev (Tb.cut 200 l.length l) (S:=S) (acc:=[]) (N:=N) (by simpa using h.own) o_ (fun r hr=>(Tb.ky1 200 o_ _ _ r hr).2.1) (by rw[ak_,<-hk];exact h1) (by rw[ak_,<-hk,Z];exact hw) (by rw[ak_,<-h.files];exact C.2);rw[<-hk]at Q l1;rw[Z]at t1;have l1:acc.length=k:=by rw[l1];exact an_ k
 have t1:tot acc=l.length:=by rw[t1];exact an_ _
 have c':=Q.lg1;have a2:∀t∈acc,1<=t.1.2/\t.1.2<=1073741824/\t.1.1=lev:=fun t H=>by
  obtain⟨a,b,_⟩:=Q.tab t (p_ _ H)
  rcases v1 t H with q|q
  ·cases q
  ·exact⟨a,o_,q⟩
 have U:(acc.map (·.1)).all xq=true:=ab_.2 fun f hf=>by
  obtain⟨t,H,rfl⟩:=W_.1 hf;obtain⟨a,b,q⟩:=a2 t H;unfold xq isNum;simp[a,b,q,O.1,O.2]
 have a4:(V.M.v.files.filter fun f=>!decide (f.2∈inn))=(V.tabs.filter fun t=>!decide (t.1.2∈inn)).map (·.1):=by rw[h.files,List.filter_map];rfl
 have a5:∀n∈inn,isNum n=true:=fun n hn=>by
  obtain⟨t,H,rfl⟩:=hi n hn;obtain⟨a,b,_⟩:=h.own.tab t H;unfold isNum;rw[decide_eq_true a,decide_eq_true (by omega:t.1.2<=1073741824)];rfl
 have a6:(⟨inn,acc.map (·.1),0,0,0,0,0⟩:Ed).may=true:=by
  unfold Ed.may;simp only[U,ab_.2 a5,decide_eq_true b1,F_,decide_eq_true (show acc.length<=40 by omega)];rfl
 obtain⟨E,I⟩:∃E:Vw,E={ V.M.v with files:=(V.tabs.filter fun t=>!decide (t.1.2∈inn)).map (·.1)++acc.map (·.1) }:=⟨_,rfl⟩;have a7:((V.tabs.filter fun t=>!decide (t.1.2∈inn)).map (·.1)++acc.map (·.1)).Sublist ((V.tabs++acc).map (·.1)):=by
  rw[am_];exact(List.filter_sublist.map _).append (List.Sublist.refl _)
 have J:E.ok=true:=by
  rw[I];unfold Vw.ok;simp only[G_,decide_eq_true_eq,d_,F_,bj_];refine⟨⟨⟨⟨C.1.1.1.1,o_⟩,C.1.1.2⟩,?_,U⟩,ay1.2 ((ay1.1 a1).sublist a7)⟩;rw[<-a4];exact ab_.2 fun f hf=>ab_.1 C.1.2 f (P_.1 hf).1
 have a8:V.M.v.app ⟨inn,acc.map (·.1),0,0,0,0,0⟩=some E:=by
  unfold Vw.app;rw[oq2 C.2 hn (fun n q=>by
   obtain⟨t,H,e⟩:=hi n q;exact⟨t.1,by rw[h.files];exact W_.2 ⟨t,H,rfl⟩,e⟩),a4]
  unfold orElse;simp only[if_true];rw[I]at J ⊢;rw[if_pos J]
 obtain⟨t,b5,d0⟩:=Q.man;obtain⟨w1,w2⟩:=Q.weigh;rw[xx1,t1,d_,l1]at w2;obtain⟨S2,x,g1,g2,g3,g4,g5⟩:=rz4 (V:=V) (St.mergeD (V.tabs.filter (fun t=>!decide (t.1.2∈inn))++acc) next) Q.calm b5 h.name h.br h.only a6 a8 o_ (by rw[Q.quota];omega);have o2:=Q.pv4 o_ g2 g3 g4 (m2:=m+2012) o_;have o3:=xq3 o2 o_ hn (fun n q=>by
  obtain⟨t,H,e⟩:=hi n q;exact⟨t,x_ _ H,e⟩)
 have b6:(V.tabs++acc).filter (fun t=>!decide (t.1.2∈inn))=V.tabs.filter (fun t=>!decide (t.1.2∈inn))++acc:=by
  rw[aQ_]
  congr 1
  refine az_.2 fun u hu=>?_;simp only[av_,decide_eq_false_iff_not];intro q;obtain⟨t,H,e⟩:=hi _ q;rw[am_]at a1;exact(aO_.1 (ay1.1 a1)).2.2 t.1 (W_.2 ⟨t,H,rfl⟩) u.1 (W_.2 ⟨u,hu,rfl⟩) e
 rw[b6]at o3;have a9:E.log=V.M.v.log:=by rw[I]
 refine⟨St.drops inn S2,{ V with M:={ V.M with count:=V.M.count+1,v:=E },tabs:=V.tabs.filter (fun t=>!decide (t.1.2∈inn))++acc,st:=next },?_,⟨?_,h.name,h.br,h.only,J,?_,?_⟩,⟨rfl,rfl,rfl,?_,?_,?_,rfl⟩⟩
 ·rw[St.wx3 e1,g1]
  rfl
 ·show Own _ _ E.log _ _ _
  rw[a9];exact o3
 ·show E.files=_
  rw[I,am_]
 ·show V.nm=logN E.log
  rw[a9];exact h.nm
 ·show tot (_++acc)=_
  rw[xx1,t1]
 ·show (_++acc).length=_
  rw[d_,l1]
 ·unfold St.cv1
  show (⟨E.floor,E.cert,E.at_,E.lease⟩:Mt)=_
  rw[I]
end Pl
namespace Pl
variable {S:Sd} {V:Sv} {tabs:List ((Int×Int)×List (List It))} {lg N:Int} {m c:Nat}
theorem qv3 (tabs:List ((Int×Int)×List (List It))):Mg.tot (tabs.map fun t=>t.2.flatten)=tot tabs:=by
 unfold Mg.tot tot;rw[aK_];rfl
theorem gv4 (V:Sv) (v:Nat):(St.pl V v).length<=tot V.tabs:=by
 unfold St.pl;refine j_ (L_ _ _) (j_ (L_ _ _) ?_);rw[<-qv3];exact Mg.vx1 _
theorem chunks (l:List It):(Tb.cut 200 l.length l).length<=l.length / 200+1:=by
 have:=Tb.sz1 200 o_ l.length l;omega
theorem wz3 (V:Sv):(St.live V).length<=V.mem.length:=L_ _ _
theorem dw4 {l:List It} {v:Nat} (h:(yj l v).length=l.length):yj l v=l:=(List.filter_sublist (l:=l)).eq_of_length h
structure Pg (V V':Sv) (v T:Nat):Prop where
 st:V'.st=yj V.st v
 tot:tot V'.tabs+V'.mem.length<=T
 cv1:St.cv1 V'=St.cv1 V
 count:V'.M.count<=V.M.count+2
 mem:V'.mem=V.mem\/V'.mem=[]
theorem qq1 (h:Plv S V N m c):(V.tabs.map fun t=>t.1.2).Nodup/\(V.tabs.map fun t=>t.1.2).length<=40/\(∀n∈V.tabs.map (fun t=>t.1.2),∃t∈V.tabs,t.1.2=n)/\(V.tabs.filter fun t=>!decide (t.1.2∈V.tabs.map fun t=>t.1.2))=[]:=by
 have C:=h.ok;unfold Vw.ok at C;simp only[G_,decide_eq_true_eq]at C;refine⟨?_,?_,fun n H=>?_,aq_.2 fun t E=>?_⟩
 ·have:=ay1.1 C.2
  rw[h.files,List.pairwise_map]at this;unfold List.Nodup;rw[List.pairwise_map];exact this
 ·have:=C.1.1.1.2
  rw[h.files,F_]at this;rw[F_];exact this
 ·obtain⟨t,E,e⟩:=W_.1 H
  exact⟨t,E,e⟩
 ·have:t.1.2∈V.tabs.map fun t=>t.1.2:=W_.2 ⟨t,E,rfl⟩
  simp[this]
theorem cj3 (h:Plv S V N m c) {v T:Nat} (O:tot V.tabs+V.mem.length<=T) (Q:T<=3200) (hN:N<=800000) (hm:m<=230000) (hc:c<=250000):
  ∃S' V',(if (yj V.st v).length=V.st.length then (S,V,0) else St.merge S V (V.tabs.map fun t=>t.1.2) 3 (yj (clean (Mg.rows (V.tabs.map fun t=>t.2.flatten))) v) (yj V.st v))=(S',V',0)/\Plv S' V' (N+17) (m+2012) c/\St.cv1 V'=St.cv1 V/\V'.st=yj V.st v/\tot V'.tabs+V'.mem.length<=T/\V'.M.count<=V.M.count+1/\V'.mem=V.mem/\V'.ct=V.ct:=by
 by_cases E:(yj V.st v).length=V.st.length
 ·rw[if_pos E]
  refine⟨S,V,rfl,⟨⟨h.own.calm,h.own.quota,⟨h.own.lg1.1,by have:=h.own.lg1.2;omega⟩,h.own.log,?_,fun t C=>?_,h.own.own⟩,h.name,h.br,h.only,h.ok,h.files,h.nm⟩,rfl,(dw4 E).symm,O,cB_ _,rfl,rfl⟩
  ·obtain⟨t,a,b⟩:=h.own.man
   exact⟨t,a,o_⟩
  ·obtain⟨a,b,q⟩:=h.own.tab t C
   exact⟨a,o_,q⟩
 ·rw[if_neg E]
  obtain⟨U,H,a3,I⟩:=qq1 h;have J:=gv4 V v;unfold St.pl at J;have Z:=chunks (yj (clean (Mg.rows (V.tabs.map fun t=>t.2.flatten))) v);rw[F_]at H;obtain⟨l,hl⟩:=n_ (yj (clean (Mg.rows (V.tabs.map fun t=>t.2.flatten))) v);rw[<-hl]at J Z ⊢;have a5:l.length / 200<=16:=o_
  obtain⟨S',V',e,p,g⟩:=ny2 (lev:=3) (l:=l) (next:=yj V.st v) h rfl o_ o_ U a3 (by rw[F_];exact H) ⟨by decide,by decide⟩ o_ (by rw[I];simp only[V_];omega) o_;have C:=g.tot;rw[I]at C;have t0:tot ([]:List ((Int×Int)×List (List It)))=0:=rfl;refine⟨S',V',e,⟨⟨p.own.calm,p.own.quota,⟨p.own.lg1.1,by have:=p.own.lg1.2;omega⟩,p.own.log,p.own.man,fun t C=>?_,p.own.own⟩,p.name,p.br,p.only,p.ok,p.files,p.nm⟩,g.cv1,g.st,by rw[g.mem];omega,by rw[g.count];exact y_ _,g.mem,g.ct⟩;obtain⟨a,b,q⟩:=p.own.tab t C;exact⟨a,o_,q⟩
theorem Plv.mono (h:Plv S V N m c) {C:Int} {m2 c2:Nat} (H:N<=C) (I:m<=m2) (J:c<=c2):Plv S V C m2 c2:=by
 refine⟨⟨h.own.calm,h.own.quota,⟨h.own.lg1.1,by have:=h.own.lg1.2;omega⟩,?_,?_,fun t E=>?_,h.own.own⟩,h.name,h.br,h.only,h.ok,h.files,h.nm⟩
 ·obtain⟨t,a,b⟩:=h.own.log
  exact⟨t,a,o_⟩
 ·obtain⟨t,a,b⟩:=h.own.man
  exact⟨t,a,o_⟩
 ·obtain⟨a,b,q⟩:=h.own.tab t E
  exact⟨a,o_,q⟩
theorem mgok (h:Plv S V N m c) {v T:Nat} (U:tot V.tabs+V.mem.length<=T) (J:T<=3200) (Z:N<=900000) (O:V.st.length<=1500) (Q:V.M.count<=1000000) (hrow:∀t∈V.tabs,t.2.length<=1000000) (E:∀x∈St.pl V v,x.fit) (C:∀r∈Tb.cut 200 (St.pl V v).length (St.pl V v),Tb.good r=true):tk4 V v:=by
 obtain⟨a1,I,a3,a4⟩:=qq1 h;rw[F_]at I;have hp:=gv4 V v;refine⟨o_,by rw[h.files,F_];exact I,o_,by rw[h.name];decide+kernel,o_,fun t H=>?_,fun t H=>⟨hrow t H,?_⟩,by rw[qv3];omega,o_,E,C⟩
 ·obtain⟨a,b,_⟩:=h.own.tab t H
  omega
 ·have:t.2.flatten.length<=tot V.tabs:=by
   unfold tot;have:=ux1 (fun t:(Int×Int)×List (List It)=>t.2.flatten.length) H;omega
  omega
theorem ly4 (h:Plv S V N m c) {v T:Nat} (hT:tot V.tabs+V.mem.length<=T) (H:T<=3200) (J:(St.live V).length<=2000) (hN:N<=700000) (hm:m<=220000) (hc:c<=250000):
  V.ct≠0/\30<=V.tabs.length/\St.ey1 S V v=(S,V,65)\/∃S' V',St.ey1 S V v=(S',V',0)/\Plv S' V' (N+19) (m+4024) c/\Pg V V' v T/\(V'.ct=V.ct/\V'.mem=V.mem/\V.ct=0\/V'.ct=0/\V'.mem=[]):=by
 have a4:=wz3 V
 rcases sw3 h o_ o_ J o_ with ⟨c0,e⟩|⟨c0,c1,e⟩|⟨c0,S1,V1,e,p1,E⟩
 ·obtain⟨S',V',O,p,q1,Q,U,Z,I,q6⟩:=cj3 h (v:=v) hT H o_ o_ hc
  refine .inr ⟨S',V',?_,p.mono o_ o_ l_,⟨Q,U,q1,o_,.inl I⟩,.inl ⟨q6,I,c0⟩⟩;unfold St.ey1;rw[e];simp only[ne_eq,not_true_eq_false,if_false];exact O
 ·refine .inl ⟨c0,c1,?_⟩
  unfold St.ey1;rw[e];rfl
 ·have ht:=E.tot
  have C:=E.mem;obtain⟨S',V',O,p,q1,Q,U,Z,I,q6⟩:=cj3 p1 (v:=v) (T:=T) (by rw[C,ht];simp only[V_];omega) H o_ o_ hc;refine .inr ⟨S',V',?_,p.mono o_ o_ l_,⟨by rw[Q,E.st],U,q1.trans E.cv1,by rw[E.count]at Z;exact Z,.inr (I.trans C)⟩,.inr ⟨q6.trans E.ct,I.trans C⟩⟩;unfold St.ey1;rw[e];simp only[ne_eq,not_true_eq_false,if_false];exact O
end Pl
namespace Pl
variable {S:Sd} {V:Sv} {tabs:List ((Int×Int)×List (List It))} {lg N:Int} {m c:Nat}
theorem fw2 (p:((Int×Int)×List (List It))->Bool):∀tabs:List ((Int×Int)×List (List It)),tot (tabs.filter fun t=>!p t)+tot (tabs.filter p)=tot tabs
 |[]=>rfl
 |a::l=>by
  have C:=fw2 p l;unfold tot at *
  by_cases e:p a=true
  ·rw[List.filter_cons_of_neg (by simp[e]),List.filter_cons_of_pos e,Z_,aI_,Z_,aI_]
   omega
  ·rw[List.filter_cons_of_pos (by simp[e]),List.filter_cons_of_neg e,Z_,aI_,Z_,aI_]
   omega
theorem step_done (h:Plv S V N m c) {inn:List Int} {lev:Int} {l:List It} {T:Nat} (hT:tot V.tabs+V.mem.length<=T) (J:T<=3200) (hN:N<=800000) (hm:m<=230000) (hc:c<=250000) (O:inn.Nodup) (hi:∀n∈inn,∃t∈V.tabs,t.1.2=n) (E:0<=lev/\lev<=3) (H:inn.length<=40)
  (C:V.tabs.length<=20\/∀t∈V.tabs,t.1.2∈inn) (hl:l.length<=tot (V.tabs.filter fun t=>decide (t.1.2∈inn))):
  ∃S' V',St.merge S V inn lev l V.st=(S',V',0)/\Plv S' V' (N+17) (m+2012) c/\V'.st=V.st/\tot V'.tabs+V'.mem.length<=T/\St.cv1 V'=St.cv1 V/\V'.M.count=V.M.count+1/\V'.mem=V.mem/\V'.ct=V.ct:=by
 obtain⟨a1,Q,a3,a4⟩:=qq1 h;rw[F_]at Q;have hs:=fw2 (fun t=>decide (t.1.2∈inn)) V.tabs;have hk:=chunks l;have U:(V.tabs.filter fun t=>!decide (t.1.2∈inn)).length<=20:=by
  rcases C with q|q
  ·exact j_ (L_ _ _) q
  ·rw[aq_.2 (fun t I=>by simp[q t I])]
   simp
 have Z:l.length / 200<=16:=o_
 obtain⟨S',V',e,p,g⟩:=ny2 (lev:=lev) (l:=l) (next:=V.st) h rfl o_ o_ O hi H E o_ o_ o_;have I:=g.tot;exact⟨S',V',e,p.mono o_ l_ l_,g.st,by rw[g.mem];omega,g.cv1,g.count,g.mem,g.ct⟩
end Pl
namespace Pl
variable {S:Sd} {V:Sv} {tabs:List ((Int×Int)×List (List It))} {lg N:Int} {m c:Nat}
theorem Own.wy4 (h:Own S tabs lg N m c) (Z:N<=1000000) {S2:Sd} (I:Calm S2) (J:S2.quota=S.quota) {x:List UInt8} {c2:Nat} (e:cont S2=upd (cont S) (logN lg) (some x)) (O:x.length<=c2):Own S2 tabs lg N m c2:=by
 have Q:=h.lg1;have E:∀s,s≠logN lg->cont S2 s=cont S s:=fun s hs=>by rw[e,upd,if_neg hs]
 have H:=zv1 (n:=lg) o_;refine⟨I,by rw[J];exact h.quota,Q,⟨x,by rw[e,upd,if_pos rfl],O⟩,?_,fun t U=>?_,fun s y C=>?_⟩
 ·rw[E _ (xk1 rz1 H (by decide))]
  exact h.man
 ·obtain⟨a,b,y,C,q⟩:=h.tab t U
  exact⟨a,b,y,by rw[E _ (xk1 (dy2 o_) H (by decide))];exact C,q⟩
 ·by_cases hs:s=logN lg
  ·exact .inr (.inr (.inl hs))
  ·rw[E s hs]at C
   exact h.own s y C
theorem jy5 (l:List It):∀mem:List It,(l.foldl wput mem).length<=mem.length+l.length:=by
 induction l with
 |nil=>intro mem;exact y_ _
 |cons a l C=>
  intro mem;have h1:=C (wput mem a);have h2:(wput mem a).length<=mem.length+1:=by
   unfold wput;split
   ·omega
   ·refine j_ (jq _ _) ?_
    have:=L_ (fun y=>!(y.same a)) mem;omega
  rw[aT_,q_];omega
theorem rq5 (h:Plv S V N m c) (H:N<=1000000):∃S',St.sync S V=(S',V,0)/\Plv S' V N m c:=by
 obtain⟨t,E,I⟩:=h.own.log;have J:=h.own.lg1;have C:Sd.named (logN V.M.v.log)=true:=Mn.cw1 (fL o_);obtain⟨c1,c2,c3,c4⟩:=h.own.calm.sync C E;have e:cont (S.sync (logN V.M.v.log)).1=upd (cont S) (logN V.M.v.log) (some t):=by
  rw[c3]
  funext s
  unfold upd;split
  ·subst_vars;exact E
  ·rfl
 refine⟨(S.sync (logN V.M.v.log)).1,?_,⟨h.own.wy4 H c2 c4 e I,h.name,h.br,h.only,h.ok,h.files,h.nm⟩⟩;unfold St.sync;rw[if_neg (by rw[h.only];simp),h.nm,if_pos c1]
theorem zz3 (h:Plv S V N m c) (E:N<=1000000) {l:List It} (h1:¬(l=[]\/l.all It.ok=false)) (h2:l.length<=60) (h3:(joins V.st l).length<=1500) (J:c+2000<=250000) (O:70000+m+c+4000 *V.tabs.length+40 *tot V.tabs+2000<=4194304):
  ∃S',St.apply S V l=(S',{ V with sz:=V.sz+(Lg.batch l).length,ct:=V.ct+1,mem:=l.foldl wput V.mem,st:=joins V.st l },0)/\Plv S' { V with sz:=V.sz+(Lg.batch l).length,ct:=V.ct+1,mem:=l.foldl wput V.mem,st:=joins V.st l } N m (c+2000):=by
 have Q:=Lg.lw2 l;obtain⟨t,H,U⟩:=h.own.log;have I:=h.own.lg1;have C:Sd.named (logN V.M.v.log)=true:=Mn.cw1 (fL o_);obtain⟨Z,w2⟩:=h.own.weigh;obtain⟨c1,c2,c3,c4⟩:=h.own.calm.append C H (Lg.batch l) o_ (by rw[h.own.quota];omega);refine⟨(S.append (logN V.M.v.log) (Lg.batch l)).1,?_,⟨h.own.wy4 E c2 c4 c3 (by rw[d_];omega),h.name,h.br,h.only,h.ok,h.files,h.nm⟩⟩;unfold St.apply;rw[if_neg (by rw[h.only];simp),if_neg h1,if_neg o_,if_neg o_,h.nm];simp only[c1,ne_eq,not_true_eq_false,if_false]
theorem dx3 (h:Plv S V N m c) (Q:N<=1000000) {x:Mt} (O:St.aj1 x (St.cv1 V)) (hm:m<=240000) (hw:70000+m+c+4000 *V.tabs.length+40 *tot V.tabs+2012<=4194304):
  ∃S' V',St.setMeta S V x=(S',V',0)/\Plv S' V' N (m+2012) c/\St.cv1 V'=x/\V'.st=V.st/\V'.mem=V.mem/\V'.tabs=V.tabs/\V'.ct=V.ct/\V'.M.count=V.M.count+1:=by
 obtain⟨t,I,U⟩:=h.own.man;obtain⟨w1,w2⟩:=h.own.weigh;have J:=O;obtain⟨⟨Z,n1⟩,⟨m2,n2⟩,⟨m3,n5⟩,⟨m4,n6⟩⟩:=J;have E:(⟨[],[],0,x.floor,x.cert,x.at_,x.lease⟩:Ed).may=true:=by
  simp[Ed.may,bj3];omega
 have C:=h.ok;have H:({ V.M.v with floor:=x.floor,cert:=x.cert,at_:=x.at_,lease:=x.lease }:Vw).ok=true:=by
  simp only[Vw.ok,bj3,G_,decide_eq_true_eq]at C ⊢;exact⟨⟨⟨C.1.1.1,⟨⟨⟨Z,m2⟩,m3⟩,m4⟩⟩,C.1.2⟩,C.2⟩
 obtain⟨S',y,a1,a2,a3,a4,a5⟩:=oy4 h.own.calm I h.name h.br E (Nd.dv5 h.ok O) o_ (by rw[h.own.quota];omega);refine⟨S',{ V with M:={ V.M with count:=V.M.count+1,v:={ V.M.v with floor:=x.floor,cert:=x.cert,at_:=x.at_,lease:=x.lease } } },?_,⟨h.own.pv4 Q a2 a3 a4 o_,h.name,h.br,h.only,H,h.files,h.nm⟩,rfl,rfl,rfl,rfl,rfl,rfl⟩;unfold St.setMeta St.saved;rw[if_neg (by rw[h.only];simp),a1];simp only[h.only,h.br,cn_]
end Pl
namespace Pl
theorem xk2 {α:Type} [BEq α] [LawfulBEq α]:∀{l K:List α},l.Nodup->(∀x∈l,x∈K)->l.length<=K.length
 |[],_,_,_=>w_ _
 |a::l,K,h,hs=>by
  obtain⟨h1,h2⟩:=aW_.1 h;have C:=hs a i_;have:=xk2 (K:=K.erase a) h2 fun x E=>(List.mem_erase_of_ne fun e=>h1 (by rw[<-e];exact E)).2 (hs x (e_ _ E));rw[List.length_erase_of_mem C]at this;have:=List.length_pos_of_mem C;rw[q_];omega
theorem pk3 {l:List It} (h:qx l):l.Nodup:=List.Pairwise.imp (fun {a b} q e=>by
 subst e;rw[It.gz1]at q
 cases q) h
structure Gr (l:List It):Prop where
 r:qx l
 o:∀x∈l,x.ok=true/\x.fit
theorem Gr.sub {l r:List It} (h:Gr l) (s:r.Sublist l):Gr r:=⟨h.r.sublist s,fun x C=>h.o x (s.subset C)⟩
theorem Gr.good {l:List It} (h:Gr l) (C:l.length<=2000):Tb.good l=true:=by
 unfold Tb.good;rw[decide_eq_true C,decide_eq_true h.r,ab_.2 fun x E=>(h.o x E).1];rfl
structure Gs_ (V:Sv):Prop where
 tabs:∀t∈V.tabs,Gr t.2.flatten/\Tb.Full t.2
 win:∃G,V.mem=rj1 G/\∀x∈G,x.ok=true/\x.fit
theorem Gs_.mem {V:Sv} (h:Gs_ V):Gr V.mem:=by
 obtain⟨G,e,C⟩:=h.win;rw[e];exact⟨(iz2 G).1,fun x E=>C x (kw3 E)⟩
theorem jw3 {V:Sv} (h:Gs_ V):Gr (St.live V):=h.mem.sub List.filter_sublist
theorem mk3 {V:Sv} (h:Gs_ V):(St.live V).length<=V.st.length:=
 xk2 (pk3 (jw3 h).r) fun x C=>of_decide_eq_true (P_.1 C).2
theorem rk4 {V:Sv} (h:Gs_ V) {tabs:List ((Int×Int)×List (List It))} (hs:∀t∈tabs,t∈V.tabs):Gr (Mg.rows (tabs.map fun t=>t.2.flatten)):=by
 refine⟨Mg.fv4 fun r C=>?_,Mg.yw4 fun r C y H=>?_⟩
 ·obtain⟨t,E,rfl⟩:=W_.1 C
  exact(h.tabs t (hs t E)).1.r
 ·obtain⟨t,E,rfl⟩:=W_.1 C
  exact(h.tabs t (hs t E)).1.o y H
theorem wy5 {V:Sv} (h:Gs_ V) (v:Nat):Gr (St.pl V v):=((rk4 h fun _ q=>q).sub List.filter_sublist).sub List.filter_sublist
theorem vz2 {l:List It} (h:Gr l):∀r∈Tb.cut 200 l.length l,Gr r/\Tb.good r=true:=fun r C=>by
 obtain⟨_,h2,h3⟩:=Tb.ky1 200 o_ _ _ r C;exact⟨h.sub h3,(h.sub h3).good o_⟩
theorem gv2 (lev:Int):∀(rs:List (List It)) {S:Sd} {acc:List ((Int×Int)×List (List It))},∀t∈(St.writes lev rs S acc).2.1,t∈acc\/∃r∈rs,t.2=Tb.rows r
 |[],S,acc,t,C=>.inl C
 |r::rs,S,acc,t,C=>by
  unfold St.writes at C;split at C
  ·exact .inl C
  ·rcases gv2 lev rs t C with q|⟨r2,q,e⟩
   ·rcases k_.1 q with q|q
    ·exact .inl q
    ·rw[a_.1 q]
     exact .inr ⟨r,i_,rfl⟩
   ·exact .inr ⟨r2,e_ _ q,e⟩
theorem yw2 {S:Sd} {V:Sv} {x:Ed} {D:Sv->Sv} {L:List ((Int×Int)×List (List It))} (C:∀V',(D V').tabs=L):(St.turn S V x D).2.1.tabs=V.tabs\/(St.turn S V x D).2.1.tabs=L:=by
 unfold St.turn;split
 ·exact .inl rfl
 ·simp only
  split
  ·exact .inr (C _)
  ·exact .inl rfl
theorem ez4 {S:Sd} {V:Sv} {inn:List Int} {lev:Int} {l next:List It}:∀t∈(St.merge S V inn lev l next).2.1.tabs,t∈V.tabs\/∃r∈Tb.cut 200 l.length l,t.2=Tb.rows r:=fun t E=>by
 unfold St.merge at E;simp only at E;split at E
 ·exact .inl E
 ·have h:=yw2 (S:=(St.writes lev (Tb.cut 200 l.length l) S []).1) (V:=V) (x:=⟨inn,(St.writes lev (Tb.cut 200 l.length l) S []).2.1.map (·.1),0,0,0,0,0⟩) (D:=St.mergeD (V.tabs.filter (fun t=>!decide (t.1.2∈inn))++(St.writes lev (Tb.cut 200 l.length l) S []).2.1) next) (fun _=>rfl)
  have C:t∈(St.turn (St.writes lev (Tb.cut 200 l.length l) S []).1 V ⟨inn,(St.writes lev (Tb.cut 200 l.length l) S []).2.1.map (·.1),0,0,0,0,0⟩ (St.mergeD (V.tabs.filter (fun t=>!decide (t.1.2∈inn))++(St.writes lev (Tb.cut 200 l.length l) S []).2.1) next)).2.1.tabs:=by
   split at E
   ·exact E
   ·exact E
  rcases h with h|h
  ·rw[h]at C
   exact .inl C
  ·rw[h]at C
   rcases k_.1 C with q|q
   ·exact .inl (P_.1 q).1
   ·rcases gv2 lev _ t q with q|q
    ·cases q
    ·exact .inr q
theorem sy3 {S S':Sd} {V V':Sv} {inn:List Int} {lev:Int} {l next:List It} {e:Nat} (h:Gs_ V) (C:Gr l) (E:V'.mem=V.mem) (H:St.merge S V inn lev l next=(S',V',e)):Gs_ V':=by
 refine⟨fun t I=>?_,by rw[E];exact h.win⟩;have:=ez4 (S:=S) (V:=V) (inn:=inn) (lev:=lev) (l:=l) (next:=next) t (by rw[H];exact I)
 rcases this with q|⟨r,q,e⟩
 ·exact h.tabs t q
 ·rw[e]
  refine⟨?_,Tb.Full.rows (Tb.ky1 200 o_ _ _ r q).1⟩;rw[Tb.fq1];exact(vz2 C r q).1
theorem dk4 {S:Sd} {V:Sv}:∀t∈(St.flush S V).2.1.tabs,t∈V.tabs\/t.2=Tb.rows (St.live V)/\St.live V≠[]:=fun t C=>by
 have key:∀(S2:Sd) (add:List (Int×Int)) (tabs:List ((Int×Int)×List (List It))),(∀t∈tabs,t∈V.tabs\/t.2=Tb.rows (St.live V)/\St.live V≠[])->∀t∈(St.by1 S2 V add tabs).2.1.tabs,t∈V.tabs\/t.2=Tb.rows (St.live V)/\St.live V≠[]:=fun S2 add tabs hs t C=>by
  unfold St.by1 at C;simp only at C;split at C
  ·exact .inl C
  ·have h:=yw2 (S:=(St.fresh S2).1) (V:=V) (x:=⟨[],add,St.number S2,0,0,0,0⟩) (D:=St.turned (St.number S2) tabs) (L:=tabs) (fun _=>rfl)
   have E:t∈(St.turn (St.fresh S2).1 V ⟨[],add,St.number S2,0,0,0,0⟩ (St.turned (St.number S2) tabs)).2.1.tabs:=by
    split at C
    ·exact C
    ·exact C
   rcases h with h|h
   ·rw[h]at E
    exact .inl E
   ·rw[h]at E
    exact hs t E
 unfold St.flush at C;split at C
 ·exact .inl C
 split at C
 ·exact .inl C
 split at C
 ·exact .inl C
 split at C
 ·exact key _ _ _ (fun t q=>.inl q) t C
 rename_i H;simp only at C;split at C
 ·exact .inl C
 ·refine key _ _ _ (fun t q=>?_) t C
  rcases k_.1 q with q|q
  ·exact .inl q
  ·rw[a_.1 q]
   exact .inr ⟨rfl,H⟩
theorem tk3 {S S':Sd} {V V':Sv} {e:Nat} (h:Gs_ V) (C:V'.mem=[]\/V'.mem=V.mem) (E:St.flush S V=(S',V',e)):Gs_ V':=by
 refine⟨fun t H=>?_,?_⟩
 ·have:=dk4 (S:=S) (V:=V) t (by rw[E];exact H)
  rcases this with q|⟨q,I⟩
  ·exact h.tabs t q
  ·rw[q]
   refine⟨?_,Tb.Full.rows I⟩;rw[Tb.fq1];exact jw3 h
 ·rcases C with q|q
  ·exact⟨[],q,fun x J=>by cases J⟩
  ·rw[q]
   exact h.win
theorem fk5 {V V':Sv} {l:List It} (h:Gs_ V) (C:∀x∈l,x.ok=true/\x.fit) (E:V'.tabs=V.tabs) (H:V'.mem=l.foldl wput V.mem):Gs_ V':=by
 obtain⟨G,e,I⟩:=h.win;refine⟨by rw[E];exact h.tabs,G++l,by rw[H,e,ly2],fun x J=>?_⟩
 rcases k_.1 J with q|q
 ·exact I x q
 ·exact C x q
theorem ux5 {V V':Sv} (h:Gs_ V) (C:V'.tabs=V.tabs) (E:V'.mem=V.mem):Gs_ V':=⟨by rw[C];exact h.tabs,by rw[E];exact h.win⟩
end Pl
namespace Pl
theorem ex3 (S:Sd) (V:Sv) (add:List (Int×Int)) (tabs:List ((Int×Int)×List (List It))):(St.by1 S V add tabs).1.load<=S.load+4:=by
 have h1:=pw2 S;unfold St.by1;simp only;split
 ·simp only;omega
 ·have h2:=uy1 (St.fresh S).1 V ⟨[],add,St.number S,0,0,0,0⟩ (St.turned (St.number S) tabs)
  split
  ·have h3:=Sd.cx1 (St.turn (St.fresh S).1 V ⟨[],add,St.number S,0,0,0,0⟩ (St.turned (St.number S) tabs)).1 (Mn.name Mn.kLog V.M.v.log)
   simp only;omega
  ·omega
theorem vw3 (S:Sd) (V:Sv):(St.flush S V).1.load<=S.load+7:=by
 unfold St.flush;split
 ·simp only;omega
 split
 ·simp only;omega
 split
 ·simp only;omega
 split
 ·exact j_ (ex3 _ _ _ _) o_
 have h1:=aq1 S (St.live V);simp only;split
 ·simp only;omega
 ·exact j_ (ex3 _ _ _ _) o_
theorem iv3 (lev:Int):∀(rs:List (List It)) (S:Sd) (acc:List ((Int×Int)×List (List It))),(St.writes lev rs S acc).1.load<=S.load+3 *rs.length
 |[],S,acc=>y_ _
 |r::rs,S,acc=>by
  have h1:=aq1 S r;unfold St.writes;rw[q_];split
  ·simp only;omega
  ·have:=iv3 lev rs (St.write S r).1 (acc++[((lev,St.number S),Tb.rows r)])
   omega
theorem rj3 (S:Sd) (V:Sv) (inn:List Int) (lev:Int) (l next:List It):(St.merge S V inn lev l next).1.load<=S.load+3 *(Tb.cut 200 l.length l).length+inn.length:=by
 have h1:=iv3 lev (Tb.cut 200 l.length l) S [];unfold St.merge;simp only;split
 ·simp only;omega
 ·have h2:=uy1 (St.writes lev (Tb.cut 200 l.length l) S []).1 V ⟨inn,(St.writes lev (Tb.cut 200 l.length l) S []).2.1.map (·.1),0,0,0,0,0⟩ (St.mergeD (V.tabs.filter (fun t=>!decide (t.1.2∈inn))++(St.writes lev (Tb.cut 200 l.length l) S []).2.1) next)
  split
  ·have h3:=St.xz1 inn (St.turn (St.writes lev (Tb.cut 200 l.length l) S []).1 V ⟨inn,(St.writes lev (Tb.cut 200 l.length l) S []).2.1.map (·.1),0,0,0,0,0⟩ (St.mergeD (V.tabs.filter (fun t=>!decide (t.1.2∈inn))++(St.writes lev (Tb.cut 200 l.length l) S []).2.1) next)).1
   simp only;omega
  ·omega
structure PlI (S:Sd) (V:Sv) (L:List It) (mt:Mt) (i:Nat):Prop where
 p:Plv S V (1+19 *(i:Int)) (2100+4024 *i) (2000 *i)
 g:Gs_ V
 st:V.st=L
 mt:St.cv1 V=mt
 stt:Stt L
 len:L.length<=1500
 fit:∀x∈L,x.fit
 tot:tot V.tabs+V.mem.length<=60 *i
 count:V.M.count<=1+2 *i
 load:S.load<=1000+1000 *i
variable {S:Sd} {V:Sv} {L:List It} {mt:Mt} {i:Nat}
theorem PlI.cq3 (h:PlI S V L mt i):V.tabs.length<=40:=by
 have:=(qq1 h.p).2.1;rw[F_]at this;exact this
theorem PlI.same (h:PlI S V L mt i):PlI S V L mt (i+1):=
 ⟨h.p.mono o_ o_ o_,h.g,h.st,h.mt,h.stt,h.len,h.fit,by have:=h.tot;omega,by have:=h.count;omega,by have:=h.load;omega⟩
theorem PlI.sync (h:PlI S V L mt i) (hi:i<=50):∃S',St.sync S V=(S',V,0)/\PlI S' V L mt (i+1):=by
 obtain⟨S',e,p⟩:=rq5 h.p o_;have C:=Gn.qj5 S V;rw[e]at C;simp only at C;exact⟨S',e,p.mono o_ o_ o_,h.g,h.st,h.mt,h.stt,h.len,h.fit,by have:=h.tot;omega,by have:=h.count;omega,by have:=h.load;omega⟩
theorem PlI.apply (h:PlI S V L mt i) (hi:i<=50) {l:List It} (h1:¬(l=[]\/l.all It.ok=false)) (h2:l.length<=60) (h3:(joins L l).length<=1500) (E:∀x∈l,x.fit):
  ∃S' V',St.apply S V l=(S',V',0)/\PlI S' V' (joins L l) mt (i+1):=by
 have Q:=h.tot;have J:=h.cq3;simp only[not_or,b4_]at h1;have H:∀x∈l,x.ok=true/\x.fit:=fun x C=>⟨ab_.1 h1.2 x C,E x C⟩;obtain⟨S',e,p⟩:=zz3 h.p o_ (l:=l) (by simp only[not_or,b4_];exact h1) h2 (by rw[h.st];exact h3) o_ o_;have I:=Gn.jx5 S V l;rw[e]at I;simp only at I;have U:=jy5 l V.mem;refine⟨S',_,e,p.mono o_ o_ o_,fk5 h.g H rfl rfl,by show joins V.st l=_;rw[h.st],h.mt,(uv1 l h.stt).1,h3,fun x C=>?_,?_,by have:=h.count;show V.M.count<=_;omega,by have:=h.load;omega⟩
 ·have O:=(((uv1 l h.stt).2 x).1 C).1
  rcases k_.1 O with q|q
  ·first|exact h.fit x q|exact E x q
  ·first|exact E x q|exact h.fit x q
 ·show Pl.tot V.tabs+(l.foldl wput V.mem).length<=_
  omega
theorem tx3 {S:Sd} {V:Sv} {x:Ed} {D:Sv->Sv} {p:List It->Prop} (h1:p V.mem) (C:∀V',V'.mem=V.mem->p (D V').mem):p (St.turn S V x D).2.1.mem:=by
 unfold St.turn;split
 ·exact h1
 ·simp only
  split
  ·exact C _ rfl
  ·exact h1
theorem sk4 (S:Sd) (V:Sv) (inn:List Int) (lev:Int) (l next:List It):(St.merge S V inn lev l next).2.1.mem=V.mem:=by
 unfold St.merge;simp only;split
 ·rfl
 ·have h:=tx3 (S:=(St.writes lev (Tb.cut 200 l.length l) S []).1) (V:=V) (x:=⟨inn,(St.writes lev (Tb.cut 200 l.length l) S []).2.1.map (·.1),0,0,0,0,0⟩) (D:=St.mergeD (V.tabs.filter (fun t=>!decide (t.1.2∈inn))++(St.writes lev (Tb.cut 200 l.length l) S []).2.1) next) (p:=fun m=>m=V.mem) rfl (fun V' e=>e)
  split
  ·exact h
  ·exact h
theorem py4 (S:Sd) (V:Sv):(St.flush S V).2.1.mem=[]\/(St.flush S V).2.1.mem=V.mem:=by
 have key:∀(S2:Sd) (add:List (Int×Int)) (tabs:List ((Int×Int)×List (List It))),(St.by1 S2 V add tabs).2.1.mem=[]\/(St.by1 S2 V add tabs).2.1.mem=V.mem:=fun S2 add tabs=>by
  unfold St.by1;simp only;split
  ·exact .inr rfl
  ·have h:=tx3 (S:=(St.fresh S2).1) (V:=V) (x:=⟨[],add,St.number S2,0,0,0,0⟩) (D:=St.turned (St.number S2) tabs) (p:=fun m=>m=[]\/m=V.mem) (.inr rfl) (fun V' e=>.inl rfl)
   split
   ·exact h
   ·exact h
 unfold St.flush;split
 ·exact .inr rfl
 split
 ·exact .inr rfl
 split
 ·exact .inr rfl
 split
 ·exact key _ _ _
 simp only;split
 ·exact .inr rfl
 ·exact key _ _ _
theorem vk4 {S S':Sd} {V V':Sv} {v e:Nat} (h:Gs_ V) (C:St.ey1 S V v=(S',V',e)):Gs_ V':=by
 obtain⟨a,H⟩:=n_ (St.flush S V);have E:Gs_ a.2.1:=tk3 h (by rw[H];exact py4 S V) H.symm;unfold St.ey1 at C;rw[<-H]at C;simp only at C;split at C
 ·rw[C]at E
  exact E
 split at C
 ·injection C with _ C
  injection C with C _;rw[<-C];exact E
 ·refine sy3 E (wy5 E v) ?_ C
  have:=sk4 a.1 a.2.1 (a.2.1.tabs.map fun t=>t.1.2) 3 (yj (clean (Mg.rows (a.2.1.tabs.map fun t=>t.2.flatten))) v) (yj a.2.1.st v);rw[C]at this;exact this
theorem lq4 (S:Sd) (V:Sv) (v:Nat):(St.ey1 S V v).1.load<=S.load+10+3 *(Pl.tot (St.flush S V).2.1.tabs / 200)+(St.flush S V).2.1.tabs.length:=by
 have h1:=vw3 S V;obtain⟨a,C⟩:=n_ (St.flush S V);unfold St.ey1;rw[<-C]at h1 ⊢;simp only;split
 ·omega
 split
 ·simp only;omega
 ·have h2:=rj3 a.1 a.2.1 (a.2.1.tabs.map fun t=>t.1.2) 3 (yj (clean (Mg.rows (a.2.1.tabs.map fun t=>t.2.flatten))) v) (yj a.2.1.st v)
  have h3:=gv4 a.2.1 v;unfold St.pl at h3;have h4:=chunks (yj (clean (Mg.rows (a.2.1.tabs.map fun t=>t.2.flatten))) v);rw[F_]at h2;have h5:=Nat.div_le_div_right (c:=200) h3;omega
theorem PlI.flush (h:PlI S V L mt i) (hi:i<=50):∃S' V' e,St.flush S V=(S',V',e)/\PlI S' V' L mt (i+1)/\(e=0\/e=65/\30<=V'.tabs.length):=by
 have Q:=h.tot;have H:=mk3 h.g;have J:=wz3 V;have I:=h.len;rw[h.st]at H;have E:=vw3 S V
 rcases sw3 h.p o_ o_ o_ o_ with ⟨c0,e⟩|⟨c0,c1,e⟩|⟨c0,S1,V1,e,O,C⟩
 ·exact⟨S,V,0,e,h.same,.inl rfl⟩
 ·exact⟨S,V,65,e,h.same,.inr ⟨rfl,c1⟩⟩
 ·rw[e]at E
  simp only at E;refine⟨S1,V1,0,e,⟨O.mono o_ o_ o_,tk3 h.g (.inl C.mem) e,C.st.trans h.st,C.cv1.trans h.mt,h.stt,h.len,h.fit,?_,?_,?_⟩,.inl rfl⟩
  ·rw[C.tot,C.mem]
   simp only[V_];omega
  ·rw[C.count]
   have:=h.count;omega
  ·have:=h.load
   omega
theorem PlI.setm (h:PlI S V L mt i) (hi:i<=50) {x:Mt} (I:St.aj1 x mt):∃S' V',St.setMeta S V x=(S',V',0)/\PlI S' V' L x (i+1):=by
 have U:=h.tot;have J:=h.cq3;obtain⟨S',V',e,p,q1,O,C,E,Z,Q⟩:=dx3 h.p o_ (x:=x) (by rw[h.mt];exact I) o_ o_;have H:=Gn.ak4 S V x;rw[e]at H;simp only at H;exact⟨S',V',e,p.mono o_ o_ o_,ux5 h.g E C,O.trans h.st,q1,h.stt,h.len,h.fit,by rw[E,C];omega,by rw[Q];have:=h.count;omega,by have:=h.load;omega⟩
theorem PlI.yj (h:PlI S V L mt i) (hi:i<=50) (v:Nat):∃S' V' e,St.ey1 S V v=(S',V',e)/\(e=65/\30<=V'.tabs.length/\PlI S' V' L mt (i+1)\/e=0/\PlI S' V' (yj L v) mt (i+1)):=by
 have Q:=h.tot;have I:=mk3 h.g;have J:=h.len;rw[h.st]at I;have C:=lq4 S V v;obtain⟨Sf,Vf,ef,U,E,_⟩:=h.flush hi;have O:=E.cq3;have Z:=E.tot;rw[U]at C;simp only at C
 rcases ly4 (v:=v) (T:=60 *i) h.p Q o_ o_ o_ o_ o_ with ⟨c0,c1,e⟩|⟨S1,V1,e,p1,H,_⟩
 ·exact⟨S,V,65,e,.inl ⟨rfl,c1,h.same⟩⟩
 ·rw[e]at C
  simp only at C;have a1:(_root_.Go.Proofs.YtkdbagdiplpcfaaGreatDoor.yj L v).length<=L.length:=L_ _ _;refine⟨S1,V1,0,e,.inr ⟨rfl,p1.mono o_ o_ o_,vk4 h.g e,by rw[H.st,h.st],H.cv1.trans h.mt,mz4 h.stt v,o_,fun x hx=>h.fit x (P_.1 hx).1,by have:=H.tot;omega,by have:=H.count;have:=h.count;omega,by have:=h.load;omega⟩⟩
theorem PlI.merge (h:PlI S V L mt i) (hi:i<=50) {inn:List Int} {lev:Int} {l:List It} (O:inn.Nodup) (E:∀n∈inn,∃t∈V.tabs,t.1.2=n) (H:0<=lev/\lev<=3) (C:V.tabs.length<=20\/∀t∈V.tabs,t.1.2∈inn) (Q:l.length<=Pl.tot (V.tabs.filter fun t=>decide (t.1.2∈inn))) (U:Gr l):
  ∃S' V',St.merge S V inn lev l V.st=(S',V',0)/\PlI S' V' L mt (i+1):=by
 have Z:=h.tot;have a0:=h.cq3;have J:inn.length<=40:=by
  have:=xk2 (K:=V.tabs.map fun t=>t.1.2) O fun x hx=>by
   obtain⟨t,a,b⟩:=E x hx;exact W_.2 ⟨t,a,b⟩
  rw[F_]at this;omega
 have hs:=fw2 (fun t=>decide (t.1.2∈inn)) V.tabs;have hk:=chunks l;have I:=rj3 S V inn lev l V.st;obtain⟨S',V',e,p,q1,q2,q3,q4,q5,q6⟩:=step_done h.p (T:=60 *i) Z o_ o_ o_ o_ O E H J C Q;rw[e]at I;simp only at I;refine⟨S',V',e,p.mono o_ o_ o_,sy3 h.g U q5 e,q1.trans h.st,q3.trans h.mt,h.stt,h.len,h.fit,o_,by rw[q4];have:=h.count;omega,?_⟩;have h5:l.length / 200<=16:=o_
 have:=h.load;omega
end Pl
namespace Pl
theorem PlI.born:∃S,St.create (Sd.new 4194304)=(S,some Nd.v0,0)/\PlI S Nd.v0 [] ⟨0,0,0,0⟩ 0:=by
 obtain⟨S,e,h⟩:=Nd.born 4194304 o_ o_;have E:St.ry=logN 1:=by decide+kernel
 refine⟨S,e,⟨⟨⟨h.calm,?_,by decide,?_,?_,fun t H=>(by cases H),fun s x C=>?_⟩,rfl,rfl,rfl,by decide,rfl,E⟩,⟨fun t H=>(by cases H),[],rfl,fun x C=>(by cases C)⟩,rfl,rfl,Stt.nil,by simp,fun x C=>(by cases C),w_ _,by decide,Gn.uv4 o_ e⟩⟩
 ·have:=h.quota
  omega
 ·obtain⟨t,a,b⟩:=h.log
  exact⟨t,by rw[E]at a;exact a,o_⟩
 ·obtain⟨t,a,b⟩:=h.man
  exact⟨t,a,o_⟩
 ·have h1:=h.small.names s x C
  have h2:=h.small.len s x C;simp only[f_,aL_,or_false]at h1
  rcases h1 with q|q|q
  ·exact .inr (.inr (.inl (q.trans E)))
  ·exact .inr (.inl q)
  ·exact .inl ⟨q,h2⟩
end Pl
namespace Pl
variable {S:Sd} {V:Sv} {L:List It} {mt:Mt} {i:Nat}
theorem ty2 (h:Gs_ V) (inn:List Int) (p:It->Bool):Gr ((Mg.rows ((V.tabs.filter fun t=>decide (t.1.2∈inn)).map fun t=>t.2.flatten)).filter p)/\((Mg.rows ((V.tabs.filter fun t=>decide (t.1.2∈inn)).map fun t=>t.2.flatten)).filter p).length<=tot (V.tabs.filter fun t=>decide (t.1.2∈inn)):=by
 refine⟨(rk4 h fun t C=>(P_.1 C).1).sub List.filter_sublist,?_⟩;refine j_ (L_ _ _) ?_;rw[<-qv3];exact Mg.vx1 _
structure Asks (S:Sd) (V:Sv):Prop where
 good:Tb.good (St.live V)=true
 fit:∀x∈V.mem,x.fit
 mem:V.mem.length<=400000
 st:V.st.length<=1500
 files:V.M.v.files.length<=40
 log:1<=V.M.v.log/\V.M.v.log<=1073741824
 count:V.M.count<=1000000
 name:V.M.name.length<=1000
 load:S.load<=1000000
 tabs:V.tabs.length<=40
 only:V.only=false
theorem PlI.asks (h:PlI S V L mt i) (hi:i<=51):Asks S V:=by
 have H:=mk3 h.g;have C:=h.len;rw[<-h.st]at C;have Q:=h.tot;have E:=h.cq3;have I:=h.p.own.lg1;have U:=h.count;have J:=h.load;exact⟨(jw3 h.g).good o_,fun x O=>(h.g.mem.o x O).2,o_,C,by rw[h.p.files,F_];exact E,⟨I.1,o_⟩,o_,by rw[h.p.name];decide+kernel,o_,E,h.p.only⟩
theorem PlI.mrg (h:PlI S V L mt i) (hi:i<=51) (v:Nat):tk4 V v:=by
 have C:=h.tot;have I:=h.count;refine mgok h.p (T:=60 *i) C o_ o_ (by rw[h.st];exact h.len) o_ (fun t q=>?_) (fun x E=>((wy5 h.g v).o x E).2) (fun r H=>(vz2 (wy5 h.g v) r H).2);have h1:=(h.g.tabs t q).2.short;have h2:t.2.flatten.length<=Pl.tot V.tabs:=by
  unfold Pl.tot;have:=ux1 (fun t:(Int×Int)×List (List It)=>t.2.flatten.length) q;omega
 omega
theorem PlI.zj3 (h:PlI S V L mt i) (hi:i<=50) (v:Nat):(St.flush S V).2.2=0->tk4 (St.flush S V).2.1 v/\(St.flush S V).1.load<=100000000000:=fun _=>by
 obtain⟨S',V',e,C,p,_⟩:=h.flush hi;rw[C];have:=p.load;exact⟨p.mrg o_ v,by simp only;omega⟩
def mayC (L l:List It):Nat:=if l=[]\/l.all It.ok=false then 1 else if 1000 < l.length\/1500 < (joins L l).length then 2 else 0
theorem PlI.zv5 (h:PlI S V L mt i) (hi:i<=50) {l:List It} (h2:l.length<=60) (C:∀x∈l,x.fit):
  ∃S' V',St.apply S V l=(S',V',mayC L l)/\PlI S' V' (if mayC L l=0 then joins L l else L) mt (i+1):=by
 unfold mayC
 by_cases h1:l=[]\/l.all It.ok=false
 ·rw[if_pos h1]
  refine⟨S,V,?_,h.same⟩;unfold St.apply;rw[if_neg (by rw[h.p.only];simp),if_pos h1]
 rw[if_neg h1]
 by_cases h3:1500 < (joins L l).length
 ·rw[if_pos (.inr h3)]
  refine⟨S,V,?_,h.same⟩;unfold St.apply;rw[if_neg (by rw[h.p.only];simp),if_neg h1,if_neg o_,h.st,if_pos h3]
 ·rw[if_neg o_]
  obtain⟨S',V',e,p⟩:=h.apply hi h1 h2 o_ C;exact⟨S',V',e,p⟩
def stepW (S:Sd) (V:Sv) (pk:Option (List Int×Int)):Sd×Sv×Bool×Nat:=
 if V.only=true then (S,V,false,14) else
 match (if 20 < V.tabs.length then some (V.tabs.map (fun t=>t.1.2),3) else pk) with
 |none=>(S,V,false,0)
 |some (inn,lev)=>
  let r:=St.merge S V inn lev ((Mg.rows ((V.tabs.filter fun t=>decide (t.1.2∈inn)).map fun t=>t.2.flatten)).filter fun x=>decide (x∈ofs (V.tabs.map fun t=>t.2.flatten).flatten)) V.st
  (r.1,r.2.1,r.2.2==0,r.2.2)
theorem PlI.step (h:PlI S V L mt i) (hi:i<=50) {pk:Option (List Int×Int)} (E:∀inn lev,pk=some (inn,lev)->inn.Nodup/\(∀n∈inn,∃t∈V.tabs,t.1.2=n)/\0<=lev/\lev<=3):
  ∃S' V' b,stepW S V pk=(S',V',b,0)/\PlI S' V' L mt (i+1):=by
 obtain⟨J,U,a3,Z⟩:=qq1 h.p;unfold stepW;rw[if_neg (by rw[h.p.only];simp)]
 by_cases C:20 < V.tabs.length
 ·rw[if_pos C]
  simp only;obtain⟨H,I⟩:=ty2 h.g (V.tabs.map fun t=>t.1.2) fun x=>decide (x∈ofs (V.tabs.map fun t=>t.2.flatten).flatten);obtain⟨S',V',e,p⟩:=h.merge hi (lev:=3) J a3 ⟨by decide,by decide⟩ (.inr fun t O=>W_.2 ⟨t,O,rfl⟩) I H;rw[e];exact⟨S',V',true,rfl,p⟩
 ·rw[if_neg C]
  cases pk with
  |none=>exact⟨S,V,false,rfl,h.same⟩
  |some q=>
   obtain⟨inn,lev⟩:=q;obtain⟨b1,b2,Q⟩:=E inn lev rfl;simp only;obtain⟨H,I⟩:=ty2 h.g inn fun x=>decide (x∈ofs (V.tabs.map fun t=>t.2.flatten).flatten);obtain⟨S',V',e,p⟩:=h.merge hi (lev:=lev) b1 b2 Q (.inl o_) I H;rw[e];exact⟨S',V',true,rfl,p⟩
end Pl
section
variable {w w1 w2:World} {X X1 X2:Dw} {S S1 S2:Sd} {Y Y1 Y2:Yw} {V V1 V2:Sv}
def pkOf (hs:List Hvf):Option (List Int×Int):=match mv1 hs 3 with
 |[]=>none
 |lv::_=>some (picks hs lv hs.length,lv+1)
theorem ov4 (hs:List Hvf) (lv:Int):(picks hs lv hs.length).Sublist (hs.map fun h=>h.hd.num):=by
 have e:hs.map (fun h=>h.hd.num)=(List.range hs.length).map fun i=>(hs.getD i hv0).hd.num:=by
  apply cp_
  ·simp
  ·intro i h1 h2
   simp at h1;simp[h1]
 rw[e];exact List.filter_sublist.map _
theorem aq6 {hs:List Hvf} {K:List Int} (H:hs.map (fun h=>h.hd.num)=K) (I:K.Nodup) (inn:List Int) (lev:Int) (h:pkOf hs=some (inn,lev)):inn.Nodup/\(∀n∈inn,n∈K)/\0<=lev/\lev<=3:=by
 unfold pkOf at h
 cases E:mv1 hs 3 with
 |nil=>rw[E]at h;cases h
 |cons lv r=>
  rw[E]at h;injection h with h;injection h with h1 h2;have:=gj3 E;have C:=ov4 hs lv;rw[h1,H]at C;exact⟨I.sublist C,fun n J=>C.subset J,o_,o_⟩
theorem gy4 (x:Tq) (inn:List Int) (D:Option Addr) (dm dd E:Nat) (w:World) (H:dm<=1000000) (I:w.cell? ⟨E,0,none⟩=some (.slice D dm dd)) (J:Row w.heap.size w D dm 1 (uw inn)):
  Calls prog 29 (#[x.val] ++#[.pointer (some ⟨E,0,none⟩)]) w fun e w'=>e=.returned (.bool (!decide (x.1.1.2∈inn)))/\Below w.heap.size w w':=by
 have C:=b_ w (.cells #[.int .i64 x.1.1.1,.int .i64 x.1.1.2,.pointer (some ⟨x.2,0,none⟩)] 92);have Q:∀o,(w.alloc o).cell? ⟨E,0,none⟩=some (.slice D dm dd):=fun o=>(R_ w o _ (M_ w _ I)).trans I;have O:=sw1 inn x.1.1.2 D dm dd H (w.alloc (.cells #[.int .i64 x.1.1.1,.int .i64 x.1.1.2,.pointer (some ⟨x.2,0,none⟩)] 92)) ((J.below C).up C.size);generalize decide (x.1.1.2∈inn)=b at *;have U:=H_ O;unfold Tq.val;clear J O;go_enter func29,ntmps29;go_wp2_with fail;refine U.out.mono ?_;rintro e w1 ⟨rfl,rfl⟩;go_wp2;go_ret;exact⟨rfl,C⟩
def St.uq2 (V:Sv) (inn:List Int):List It:=(Mg.rows ((V.tabs.filter fun t=>decide (t.1.2∈inn)).map fun t=>t.2.flatten)).filter fun x=>decide (x∈ofs (V.tabs.map fun t=>t.2.flatten).flatten)
def St.fv2 (V:Sv) (pk:Option (List Int×Int)):Option (List Int×Int):=if 20 < V.tabs.length then some (V.tabs.map (fun t=>t.1.2),3) else pk
theorem bj4 {pk:Option (List Int×Int)} (C:V.only=false) (h:St.fv2 V pk=none):Pl.stepW S V pk=(S,V,false,0):=by
 unfold Pl.stepW;unfold St.fv2 at h;rw[if_neg (by rw[C];simp),h]
theorem bv4 {pk:Option (List Int×Int)} {inn:List Int} {lev:Int} (C:V.only=false) (h:St.fv2 V pk=some (inn,lev)):Pl.stepW S V pk=((St.merge S V inn lev (St.uq2 V inn) V.st).1,(St.merge S V inn lev (St.uq2 V inn) V.st).2.1,(St.merge S V inn lev (St.uq2 V inn) V.st).2.2==0,(St.merge S V inn lev (St.uq2 V inn) V.st).2.2):=by
 unfold Pl.stepW;unfold St.fv2 at h;rw[if_neg (by rw[C];simp),h];rfl
theorem dz6 {q:List Tq} {ts:List ((Int×Int)×List (List It))} (h:q.map (·.1)=ts) (p:(Int×Int)×List (List It)->Bool):(q.filter fun x=>p x.1).map (fun x=>x.1.2.flatten)=(ts.filter p).map fun t=>t.2.flatten:=by
 subst h;rw[List.filter_map,aK_];rfl
theorem cq6 {ls ms:List (List It)} (h:ls.Sublist ms):Mg.tot ls<=Mg.tot ms:=by
 induction h with
 |slnil=>exact y_ _
 |cons a _ C=>exact j_ C (by unfold Mg.tot;simp)
 |cons_cons a _ C=>unfold Mg.tot at *;simp;omega
theorem kz29 {P S a oi v} (h:Hv P S a oi v:=by intro w C;(have t0:=C.1.c0;have t5:=C.2);go_simp;try (with_reducible rfl)):Hv P S a oi v:=h
theorem tw4 (h:SvAt w X S Y V) (ho:V.only=false) (hg:Pl.Gs_ V) (hm:tk4 V 0) (l1:(V.tabs.map fun t=>t.1.2).Nodup) (l2:S.load<=100000000000):
  Calls prog 8 #[.pointer (some ⟨Y.s,0,none⟩)] w fun e w'=>∃hs:List Hvf,hs.map (·.hd)=V.tabs.map hdT/\e=.returned (.tuple #[.bool (Pl.stepW S V (pkOf hs)).2.2.1,.int .i64 ((Pl.stepW S V (pkOf hs)).2.2.2:Int)])/\aw1 X Y w w' (Pl.stepW S V (pkOf hs)).1 (Pl.stepW S V (pkOf hs)).2.1:=by
 have U:∀H,Below w.heap.size w H->fy1 H Y.T Y.q V.tabs:=fun H O=>(h.below O).tabs.now;obtain⟨hq,hrow,q7,q8,l3,l4⟩:=h.tabs.now;have l5:=h.tlen;have l6:=hm.tl;have l7:=h.lt;have hcells:∀H,Below w.heap.size w H->H.cell? ⟨Y.s,4,none⟩=some (.slice Y.T.a Y.T.n Y.T.c)/\H.cell? ⟨Y.s,5,none⟩=some (.slice Y.A.a Y.A.n Y.A.c):=fun H O=>⟨(h.below O).box.cell 4,(h.below O).box.cell 5⟩;have q9:=h.box.cell 10;have c4:=(hcells w b0_).1;simp only[Yw.cells,gE0,gE1,ho]at q9;have d0:∀p∈Y.q,p.1∈V.tabs:=fun p hp=>by rw[<-hq];exact W_.2 ⟨p,hp,rfl⟩
 have l8:=mj4 Y.s Y.T.n Y.T.c Y.T.a Y.q w c4 hrow l4 (fun p hp=>⟨(hg.tabs _ (d0 p hp)).2,(hm.big _ (d0 p hp)).2⟩) (fun p hp x hx=>((hg.tabs _ (d0 p hp)).1.o x hx).1) o_;have l9:=H_ l8;have HH:=H_ h;have e3:=H_ U;have e4:=H_ hcells;have HQ:=H_ (c_ hq d0);have HT:=H_ (c_ l5 (c_ l6 l3));have i0:=H_ l7;have HG:=H_ (c_ hg (c_ hm (c_ l1 l2)));clear l8 h U hcells hq d0 l5 l6 l3 l7 hg hm l1 l2 hrow q7 q8 l4;go_enter func8,ntmps8;go_wp2_with fail;refine l9.out.mono ?_;rintro e w1 ⟨A1,c1,hs,rfl,hH,g8,l'⟩;have m0:=H_ (wx4 hs A1 Y.T.n c1 (by have:=HT.out.1;have:=HT.out.2.1;omega) w1 hH);have i1:=H_ l';have a5:hs.map (·.hd)=V.tabs.map hdT:=by rw[g8,<-HQ.out.1,aK_];rfl
 have g9:hs.map (fun h=>h.hd.num)=V.tabs.map fun t=>t.1.2:=by
  have:=congrArg (List.map Hd.num) a5;rw[aK_,aK_]at this;exact this
 have b0:=H_ (c_ a5 g9);clear hH g8 a5 g9 l' l9;go_wp2_with fail;refine m0.out.mono ?_;rintro e w2 ⟨E,i2⟩;obtain⟨D,dm,dd,lev,ok,rfl,d1⟩:∃(D:Option Addr) (dm dd:Nat) (lev:Int) (ok:Bool),e=.returned (.tuple #[.slice D dm dd,.int .i64 lev,.bool ok])/\((ok=false/\pkOf hs=none)\/(ok=true/\∃inn,pkOf hs=some (inn,lev)/\w2.ownsRow w1.heap.size 3 1 (.slice D dm dd) dm (uw inn))):=by
  unfold nj1 at E;unfold pkOf
  cases m1:mv1 hs 3 with
  |nil=>
   rw[m1]at E;exact⟨_,_,_,_,_,E,.inl ⟨rfl,rfl⟩⟩
  |cons lv r=>
   rw[m1]at E;obtain⟨v,h1,h2⟩:=E;obtain⟨D,dd,rfl,_⟩:=gz h2;exact⟨D,_,dd,_,_,h1,.inr ⟨rfl,_,rfl,h2⟩⟩
 have b1:=az i1.out i2;have d2:=b_ w2 (.cells #[.slice D dm dd] 30);have a6:=BoxO.new w2 #[.slice D dm dd] 30;obtain⟨W,hW⟩:=n_ (w2.alloc (.cells #[.slice D dm dd] 30));obtain⟨g4,Z⟩:=n_ w2.heap.size;have m3:w1.heap.size<=g4/\w.heap.size<=g4:=⟨by rw[Z];exact i2.size,by rw[Z];exact b1.size⟩;have m4:W.heap.size=g4+1:=by rw[hW,Z];simp
 have k4:=(e4.out _ (az b1 d2)).1;rw[<-hW]at d2 a6;rw[<-Z]at a6;have HC:=H_ (d1.imp id (fun⟨a,inn,b,c⟩=>c_ a (Exists.intro inn (c_ b (own_below c d2)))));have HW:=H_ (c_ hW Z);have e5:=H_ (c_ m3 m4);have e6:=H_ a6;have b8:=H_ (az b1 d2);have b2:=H_ (ox2 Y.s Y.T.n Y.T.c Y.T.a Y.q W (by rw[hW];exact k4) ((e3.out W b8.out).2.1) (by have:=HT.out.1;have:=HT.out.2.1;omega));clear d1 E i2 b1 d2 a6 m3 m4 hW Z m0;go_upto_if 26 with (fail)
 rw[<-HW.out.1,<-HW.out.2];clear k4
 go_cut [5,6] (fun s5 s6 wx=>∃(D:Option Addr) (dm dd:Nat) (lev:Int) (ok:Bool),s5=.int .i64 lev/\s6=.bool ok/\Hid (BoxO wx 30 g4 [.slice D dm dd]/\Below w.heap.size w wx/\((ok=false/\St.fv2 V (pkOf hs)=none)\/(ok=true/\∃inn,St.fv2 V (pkOf hs)=some (inn,lev)/\wx.ownsRow w.heap.size 3 1 (.slice D dm dd) dm (uw inn)))))
 case first=>
  by_cases u6:(20:Int) < (Y.T.n:Int)
  ·have HK:Hid (St.fv2 V (pkOf hs)=some (V.tabs.map (fun t=>t.1.2),3)):=H_ (by
    unfold St.fv2;rw[if_pos];have:=HT.out.1;omega)
   go_wp2_with fail;refine b2.out.mono ?_;rintro e w5 ⟨A3,k3,c3,rfl,r6,i3,b9⟩;have e7:=e6.out.below b9;have s0:=e7.c0;have z0:=e7.free 0;have i4:=e7.store 0 (.slice A3 k3 c3);simp only[List.set]at i4;have m6:Chg [g4] w5 (w5.setCell ⟨g4,0,none⟩ (.slice A3 k3 c3)):=(Chg.refl [g4] _).setCell _ (.inl s_);have i5:=own_base (jy i3 m6 (fun g hg hm=>by
    have q1:=(i3.lt g hg).1;rw[a_.1 hm]at q1;have:=e5.out.2;omega)) b8.out.size
   rw[show (Y.q.map fun p=>Value.int .i64 p.1.1.2)=uw (V.tabs.map fun t=>t.1.2) from by rw[<-HQ.out.1];simp[uw,b3_]]at i5;have HF:=H_ (c_ i4 (c_ ((az b8.out b9).setCell (p:=⟨g4,0,none⟩) e5.out.1.2 (.slice A3 k3 c3)) i5));clear r6 i3 b9 e7 i4 m6 i5 b2 HC e6 b8;go_wp2_with fail
   go_meet
   exact⟨_,_,_,_,_,rfl,rfl,H_ ⟨HF.out.1,HF.out.2.1,.inr ⟨rfl,_,HK.out,HF.out.2.2⟩⟩⟩
  ·have HK:Hid (St.fv2 V (pkOf hs)=pkOf hs):=H_ (by
    unfold St.fv2;rw[if_neg];have:=HT.out.1;omega)
   clear b2;go_wp2_with fail
   go_meet
   exact⟨D,dm,dd,lev,ok,rfl,rfl,H_ ⟨e6.out,b8.out,HC.out.imp (fun⟨a,b⟩=>⟨a,HK.out.trans b⟩) (fun⟨a,inn,b,c⟩=>⟨a,inn,HK.out.trans b,own_base c i1.out.size⟩)⟩⟩
 case rest=>
  have r8:Hid (w.heap.size<=g4):=H_ e5.out.1.2;clear b2 HC e6 b8 HW i1 e5;obtain⟨D,dm,dd,lev,ok,rfl,rfl,HR⟩:=hcut
  rcases HR.out.2.2 with ⟨rfl,E⟩|⟨rfl,inn,E,hrow⟩
  ·have HZ:=H_ (bj4 (S:=S) ho E)
   have HB:=H_ HR.out.2.1;clear E HR;go_wp2;go_ret2;exact⟨hs,b0.out.1,by rw[HZ.out];rfl,by rw[HZ.out];exact aw1.same HH.out HB.out⟩
  obtain⟨R,hR⟩:=n_ (St.merge S V inn lev (St.uq2 V inn) V.st);have HZ:Hid (Pl.stepW S V (pkOf hs)=(R.1,R.2.1,R.2.2==0,R.2.2)):=H_ (by rw[hR];exact bv4 ho E);have i7:Hid (inn.Nodup/\∀n∈inn,n∈V.tabs.map fun t=>t.1.2):=H_ (by
   unfold St.fv2 at E;split at E
   ·injection E with E
    injection E with E _;rw[<-E];exact⟨HG.out.2.2.1,fun n hn=>hn⟩
   ·have:=aq6 b0.out.2 HG.out.2.2.1 inn lev E
    exact⟨this.1,this.2.1⟩)
  have O:=HR.out.2.1;have a6:=HR.out.1;have m7:dm=inn.length:=by have:=hrow.1;simpa [uw] using this.symm
  have m8:inn.length<=1000:=by
   have:=Pl.xk2 i7.out.1 i7.out.2;rw[F_]at this;have:=HT.out.2.1;omega
  have U:=e3.out wc O;have k4:=(e4.out wc O).1;have m9:=H_ (xy1 Y.T.a Y.T.n Y.T.c Y.q wc (by have:=HT.out;omega) HT.out.2.2 U.2.1);have a0:=H_ (c_ hrow (c_ a6 (c_ m7 m8)));have HB:=H_ O;have s1:=H_ hR;clear O a6 m7 m8 U hrow E hR HR;go_wp2_with fail;refine m9.out.mono ?_;rintro e w6 ⟨A2,c2,rfl,e',Q⟩;have d3:=(mx1 e').2.2;have Z:=a0.out.2.1.lt;have i8:=vv3 29 (fun _ _=>rfl) #[.pointer (some ⟨g4,0,none⟩)] (fun x=>!decide (x.1.1.2∈inn)) wc.heap.size A2 Y.T.n c2 c2 Y.q w6 (by have:=HT.out;omega) (mx1 e').1 Q.size e' (fun x w7 hc=>by
   have c3:=bw2 hc;have m':=Row.own a0.out.1;refine gy4 x inn D dm dd g4 w7 (by have:=a0.out.2.2;omega) (((a0.out.2.1.below Q).chg c3 (sq1 fun a ha=>by have:=d3 a ha;omega)).cell 0) ((kz c3 ((m'.below Q).up Q.size) l_ (fun j hj a ha hm=>?_)).up c3.size);obtain⟨a',e,q1,_⟩:=m'.cell j hj;rw[ha]at e;injection e with e;subst e;exact sq1 (g:=a.block) (A:=A2) (fun a2 s2=>by have:=d3 a2 s2;omega) hm)
  simp only[Bool.not_not]at i8;have n0:=H_ i8;have i9:=H_ (c_ Q (az HB.out Q));clear i8 e' Q d3 Z m9 k4;go_wp2_with fail;refine n0.out.mono ?_;rintro e w7 ⟨k7,A7,rfl,f6,n1,a1⟩;have b3:Below w.heap.size w w7:=HB.out.trans ((i9.out.1.trans a1).mono HB.out.size);have g':Below wc.heap.size wc w7:=i9.out.1.trans a1;have U:=e3.out w7 b3;have k4:=(e4.out w7 b3).1;obtain⟨ls,f7⟩:=n_ (V.tabs.map fun t=>t.2.flatten);have n2:(Y.q.map fun p=>p.1.2.flatten)=ls:=by rw[f7,<-HQ.out.1,aK_];rfl
  have h6:ls.flatten.length<=100000:=by
   have:=HG.out.2.1.tot;rw[<-f7]at this;unfold Mg.tot at this;rw[List.length_flatten];exact this
  have d4:∀p∈Y.q,p.1.2.length<=1000000/\p.1.2.flatten.length<=1000000:=fun p hp=>HG.out.2.1.big _ (HQ.out.2 p hp);have i':=gq2 Y.T.a Y.T.n Y.T.c Y.q w7 U.2.1 U.2.2.2.2.2 (by have:=HT.out;omega) d4;rw[n2]at i';have n3:=H_ i';have f8:=H_ (c_ f6 (c_ n1 (c_ b3 g')));have a4:=H_ (c_ f7 (c_ h6 d4));clear i' f7 n2 h6 d4 U f6 n1 a1 b3 g' n0 i9;go_wp2_with fail;refine n3.out.mono ?_;rintro e w8 ⟨A8,n8,c8,v3,rfl,n4,n6,n7,n9⟩;have j0:=rv1 A8 n8 c8 ls w8 (by have h1:=HT.out;rw[n4,a4.out.1,F_];omega) (by have:=a4.out.2.1;omega) (n7.rows n6);obtain⟨fl,j1⟩:=n_ ls.flatten;rw[<-j1]at j0;have j2:=H_ j1;have n':=H_ j0;have o0:=H_ n9;clear n9 n4 n6 n7 j0 j1 n3;go_wp2_with fail;refine n'.out.mono ?_;rintro e w9 ⟨A9,c9,rfl,o1,-,-,d5⟩;have o2:=H_ (rv5 A9 fl.length c9 fl w9 (by rw[j2.out];have:=a4.out.2.1;omega) (Row.own o1));have f9:=H_ (az o0.out d5);clear d5 o1 n' o0;go_wp2_with fail;refine o2.out.mono ?_;rintro e I ⟨s8,j3,rfl,h7,h8,b5⟩;have b':Below w.heap.size w I:=az f8.out.2.2.1 (az f9.out b5);have f':Below wc.heap.size wc I:=az f8.out.2.2.2 (az f9.out b5);have j4:=own_below f8.out.2.1 (az f9.out b5);have f6:k7<=1000:=by
   rw[f8.out.1];have h1:=L_ (fun x:Tq=>decide (x.1.1.2∈inn)) Y.q;have h2:Y.q.length=V.tabs.length:=by rw[<-HQ.out.1,F_]
   have:=HT.out.2.1;omega
  obtain⟨pq,d6⟩:=n_ (Y.q.filter fun x=>decide (x.1.1.2∈inn));obtain⟨ms,c'⟩:=n_ ((V.tabs.filter fun t=>decide (t.1.2∈inn)).map fun t=>t.2.flatten);have o3:(pq.map fun p=>p.1.2.flatten)=ms:=by rw[d6,c'];exact dz6 HQ.out.1 fun t=>decide (t.1.2∈inn)
  have j5:Mg.tot ms<=100000:=by
   refine j_ (cq6 (ms:=ls) ?_) (by have:=HG.out.2.1.tot;rw[a4.out.1];exact this);rw[c',a4.out.1];exact List.filter_sublist.map _
  have o4:ms.length<=1000:=by
   rw[c',F_];exact j_ (L_ _ _) HT.out.2.1
  rw[<-d6]at j4;have o5:St.uq2 V inn=(Mg.rows ms).filter fun x=>decide (x∈ofs fl):=by rw[j2.out,a4.out.1,c'];rfl
  obtain⟨j6,o6⟩:=Pl.ty2 HG.out.1 inn fun x=>decide (x∈ofs (V.tabs.map fun t=>t.2.flatten).flatten);have o7:∀H,Below I.heap.size I H->Calls prog 33 #[.slice A7 k7 c2] H (vx3 H ms):=fun H O=>by
   have:=gq2 A7 k7 c2 pq H (((Row.own j4).below O).up O.size) (fun p hp=>(e3.out H (az b' O)).2.2.2.2.2 p (by rw[d6]at hp;exact(P_.1 hp).1)) o_ (fun p hp=>a4.out.2.2 p (by rw[d6]at hp;exact(P_.1 hp).1));rw[o3]at this;exact this
  have d7:∀H,Below I.heap.size I H->BoxO H 30 g4 [.slice D dm dd]/\H.cell? ⟨Y.s,5,none⟩=some (.slice Y.A.a Y.A.n Y.A.c):=fun H O=>⟨a0.out.2.1.below (az f' O),(e4.out H (az b' O)).2⟩;have h9:j3<=100000:=by
   rw[h7];have h1:=lq2 fl [];have h2:=a4.out.2.1;rw[<-j2.out]at h2;unfold ofs;simp only[V_,an_]at h1;omega
  obtain⟨er,j7⟩:=n_ R.2.2;have o8:∀H A6 k6 c6,Below I.heap.size I H->k6=(St.uq2 V inn).length->Its I.heap.size H A6 k6 c6 (St.uq2 V inn)->Calls prog 34 #[.pointer (some ⟨Y.s,0,none⟩),.slice D dm dd,.int .i64 lev,.slice A6 k6 c6,.slice Y.A.a Y.A.n Y.A.c] H fun e w'=>e=.returned (.int .i64 (er:Int))/\xk3 X Y H w' R.1 R.2.1 Y.A:=fun H A6 k6 c6 O hk hi=>by
   have hd:=HH.out.below (az b' O);have o9:=own_below a0.out.1 (az f' O);have s9:=mx1 a0.out.1;have hm:=HG.out.2.1;have:=jz2 hd D dm dd inn lev A6 k6 c6 (St.uq2 V inn) Y.A.a Y.A.n Y.A.c V.st (by have:=a0.out.2.2;omega) (Row.own o9) (fun a ha=>⟨fun d8=>by have:=i0.out _ d8;have:=s9.2.2 a ha;omega,(o9.lt a.block (by rw[ha];rfl)).2⟩) (fun n hn=>by
    obtain⟨t,ht,rfl⟩:=W_.1 (i7.out.2 n hn);exact hm.num t ht) (by
    rw[hk];refine j_ o6 ?_;rw[<-Pl.qv3,<-c'];exact j5) hi.nc hi.row (fun a ha d8=>by have:=i0.out _ d8;have:=hi.low a ha;have:=b'.size;omega) (fun x hx=>(j6.o x hx).2) (fun r hr=>(Pl.vz2 j6 r hr).2) hd.st hm.fl hm.tl hm.ct hm.nm HG.out.2.2.2
   rw[<-s1.out,<-j7]at this;exact this
  have o':=H_ o7;have J:=H_ d7;have p0:=H_ o8;have h':=H_ (c_ h9 h8);have j9:=H_ (c_ j5 o4);have p1:=H_ o5;have s':=H_ (c_ b' f');have g0:=H_ j7;clear o7 d7 o8 h9 h8 h7 j5 o4 o5 b' f' j7 j6 o6 j4 d6 c' o3 f6 b5 o2 f9;go_wp2_with fail;refine wp_region_held_drew (S:=fun w'=>BoxO w' 30 g4 [.slice D dm dd]/\w'.cell? ⟨Y.s,5,none⟩=some (.slice Y.A.a Y.A.n Y.A.c)) rfl (J.out _ (ak b0_)) (fun C=>?_);refine w_v 0 C ?_ (k:=kz29);go_simp;refine w_v 1 C ?_ (k:=kz29);go_simp;refine w_v 2 C ?_ (k:=kz29);go_simp;refine w_v 3 C ?_ (k:=kz29);go_simp;refine w_v 6 C ?_ (k:=kz29);go_simp;refine w_v 9 C ?_ (k:=kz29);go_simp;refine w_v 10 C ?_ (k:=kz29);go_simp;refine w_v 11 C ?_ (k:=kz29);go_simp;refine w_v 12 C ?_ (k:=kz29);go_simp;refine w_r 4 fun K hK=>?_;go_simp
  with_reducible refine(o'.out _ (ak b0_)).mono ?_
  rintro e wa ⟨A5,n5,c5,w3,rfl,t1,j',p2,b9⟩;have p3:=H_ (az (ak (Below.refl I.heap.size I)) b9);have p4:=H_ (kx2 A5 n5 c5 ms wa (by have:=j9.out.2;omega) (by have:=j9.out.1;omega) (jk1 j') (p2.rows j'));clear t1 j' p2 b9;go_simp;refine hK.out _ _ (J.out _ p3.out) ?_;clear C hK K;intro C;go_simp;refine w_r 5 fun K hK=>?_;go_simp
  refine m_ p4 ?_
  rintro e wb ⟨A6,k6,c6,rfl,p5,p6,Q⟩;have g1:=H_ (az p3.out Q);have p7:=H_ (xz4 s8 j3 j3 (ofs fl) wb (by have:=h'.out.1;omega) ((h'.out.2.row.below g1.out).up g1.out.size));have k0:=H_ (c_ p5 p6);clear p5 p6 Q;go_simp;refine hK.out _ _ (J.out _ g1.out) ?_;clear C hK K;intro C;go_simp;refine w_r 7 fun K hK=>?_;go_simp
  refine m_ p7 ?_
  rintro e wd ⟨gh,bh,rfl,hh,a1⟩;have k1:=H_ (az g1.out a1);have p8:=H_ (keep_any 102 (fun _ _=>rfl) #[.pointer (some ⟨gh,0,none⟩)] (fun x=>decide (x∈ofs fl)) A6 k6 c6 (Mg.rows ms) wd (by rw[k0.out.1];have h1:=Mg.vx1 ms;have:=j9.out.1;omega) ((k0.out.2.row.below a1).up a1.size) (fun x w7 O=>py3 x gh bh (ofs fl) w7 (hh.below O)));clear hh a1;go_simp;refine hK.out _ _ (J.out _ k1.out) ?_;clear C hK K;intro C;go_simp;refine w_r 8 fun K hK=>?_;go_simp
  refine m_ p8 ?_
  rintro e we ⟨A9,k9,c9,rfl,p9,d9,d5⟩;have g2:=H_ (az k1.out d5);have HM:=H_ (p0.out we A9 k9 c9 g2.out (by rw[p1.out];exact p9) (by rw[p1.out];exact⟨d9.row,d9.nc,d9.cm,fun a ha=>j_ k1.out.size (d9.low a ha)⟩));clear p9 d9 d5;go_simp;refine hK.out _ _ (J.out _ g2.out) ?_;clear C hK K;intro C;go_simp;refine w_r 13 fun K hK=>?_;go_simp
  refine m_ HM ?_
  rintro e wf ⟨rfl,X1,Y1,e1,es,d',k2,p',g5⟩;replace d':=H_ d';replace g5:=H_ g5;go_simp;refine hK.out _ _ ⟨(J.out _ g2.out).1.chg k2 (fun d8=>by have h1:=i0.out _ d8;have h2:=r8.out;omega),(by have q:=d'.out.box.cell 5;rw[es]at q;have qa:Y1.A=Y.A:=g5.out.elim id id;simp only[Yw.cells,gE0,gE1,qa]at q;exact q)⟩ ?_;clear C hK K;intro C;go_simp;refine w_v 14 C ?_ (k:=kz29);go_simp;refine w_d ?_;have HU:Hid (aw1 X Y w wf R.1 R.2.1):=H_ (aw1.trans rfl rfl (Chg.of_below (az s'.out.1 g2.out) _) (fun _ hg=>.inl hg) ⟨X1,Y1,e1,es,d'.out,k2,p'⟩);clear C d' k2 p' g5 e1 es HM p8 p7 p4 k0 o' J p0
  by_cases h0:er=0
  ·have e0:((er:Int)==0)=true:=by simp[h0]
   have HB:Hid ((R.2.2==0)=true):=H_ (by rw[<-g0.out,h0];rfl);clear h0;go_wp2;go_ret2;exact⟨hs,b0.out.1,by rw[HZ.out];simp only;rw[HB.out,<-g0.out];rfl,by rw[HZ.out];exact HU.out⟩
  ·have e0:((er:Int)==0)=false:=by simp;omega
   have HB:Hid ((R.2.2==0)=false):=H_ (by rw[<-g0.out];simpa using h0);clear h0;go_wp2;go_ret2;exact⟨hs,b0.out.1,by rw[HZ.out];simp only;rw[HB.out,<-g0.out];rfl,by rw[HZ.out];exact HU.out⟩
end
theorem ev4 (A:Option Addr) (n c:Nat) (a:List It) (B:Option Addr) (m d:Nat) (b:List It) (w:World) (a9:n+m<=90000) (hS:Stt a) (ra:Row w.heap.size w A n 5 (itc a)) (rb:Row w.heap.size w B m 5 (itc b)):
  Calls prog 16 #[.slice A n c,.slice B m d] w fun e w'=>e=.returned (.int .i64 (Pl.mayC a b:Int))/\Below w.heap.size w w':=by
 have Q:=rb.qj;obtain⟨R,hR⟩:∃R:Nat,R=Pl.mayC a b:=⟨_,rfl⟩;rw[<-hR];unfold Pl.mayC at hR;have HR:=H_ hR;have U:=H_ (fun W (hb:Below w.heap.size w W)=>xj4 A n c a B m d b W a9 hS ((ra.below hb).up hb.size) ((rb.below hb).up hb.size));clear hR ra
 by_cases h0:m=0
 ·subst h0
  have E:Hid (R=1):=H_ (by rw[HR.out,if_pos (.inl (ag_.1 Q))]);go_enter func16,ntmps16;go_wp2;go_ret;rw[E.out];exact⟨rfl,Below.refl _ _⟩
 have e0:((m:Int)==0)=false:=by simp;omega
 have b1:Hid (b≠[]):=H_ (fun e=>by rw[e]at Q;simp at Q;omega);go_enter func16,ntmps16;go_wp2
 go_loopw [5] (fun i wr=>∃k:Nat,k<=m/\i=.int .i64 (k:Int)/\Hid ((b.take k).all It.ok=true)/\Below w.heap.size w wr) (fun i _=>m - (intOf i).toNat)
 case atStart=>exact⟨0,w_ _,rfl,H_ rfl,Below.refl _ _⟩
 case round=>
  obtain⟨k,hk,rfl,HQ,H⟩:=hrel
  by_cases b2:k < m
  ·obtain⟨p,hl,rfl,b',c0,c1,a0,c3,c4⟩:=(rb.below H).it b2
   have a1:(b.take (k+1)).all It.ok=((b.take k).all It.ok&&(b[k]).ok):=by rw[r_ hl,bj_,List.all_cons,List.all_nil,Bool.and_true]
   have a2:(b[k]).ok=false->b.all It.ok=false:=fun h=>by
    cases h2:b.all It.ok with
    |false=>rfl
    |true=>rw[ab_]at h2;rw[h2 _ (u_ hl)]at h;cases h
   have Z:=fun W=>oz3 b[k] W;generalize b[k]=x at *;unfold It.val at Z;have HK:=H_ Z;have HT:=H_ (c_ a1 a2);have c':IntKind.i64.wrap (k:Int)=(k:Int):=D_ _ o_;clear Z a1 a2;go_wp2_with fail;refine(HK.out _).mono ?_;rintro e w2 ⟨rfl,C⟩;have I:=az H C
   cases hx:x.ok with
   |false=>
    have E:Hid (R=1):=H_ (by rw[HR.out,if_pos (.inr (HT.out.2 hx))]);clear hx C c0 c1 a0 c3 c4;go_wp2;go_ret;rw[E.out];exact⟨rfl,I⟩
   |true=>
    have E:Hid ((b.take (k+1)).all It.ok=true):=H_ (by rw[HT.out.1,HQ.out,hx];rfl);clear hx C c0 c1 a0 c3 c4;go_wp2;go_roundw
    case rel=>exact⟨k+1,o_,by go_num,E,I⟩
    case measure=>simp[intOf];omega
  ·have E:Hid (R=if 1000 < b.length\/1500 < (joins a b).length then 2 else 0):=H_ (by
    have:=HQ.out;rw[g_ o_]at this;rw[HR.out,if_neg (by rw[this];simp only[not_or];exact⟨b1.out,by simp⟩)])
   have O:=H_ (U.out wr H)
   by_cases b7:(1000:Int) < (m:Int)
   ·have J:Hid (R=2):=H_ (by rw[E.out,if_pos (.inl o_)])
    clear E O U HQ;go_wp2;go_ret;rw[J.out];exact⟨rfl,H⟩
   ·clear U HQ
    go_wp2_with fail;refine O.out.mono ?_;rintro e w2 ⟨A3,k3,c3,rfl,a4,_,_,C⟩;have I:=az H C
    by_cases d2:(1500:Int) < (k3:Int)
    ·have J:Hid (R=2):=H_ (by rw[E.out,if_pos (.inr o_)])
     clear E O a4 C;go_wp2;go_ret;rw[J.out];exact⟨rfl,I⟩
    ·have J:Hid (R=0):=H_ (by rw[E.out,if_neg o_])
     clear E O a4 C;go_wp2;go_ret;rw[J.out];exact⟨rfl,I⟩
theorem xz3 (x:Nat):((((281474976710656:Int) < (x:Int))=True)/\281474976710656 < x)\/((((281474976710656:Int) < (x:Int))=False)/\x<=281474976710656):=by
 rcases ah_ 281474976710656 x with h|h
 ·exact .inl ⟨eq_true o_,h⟩
 ·exact .inr ⟨eq_false o_,h⟩
theorem qw3 (x y:Nat):(x=0/\((y:Int)==0)=false/\((y:Int) !=0)=true/\y≠0)\/((x=0/\y=0)\/((x:Int)==0)=false/\x≠0):=by
 by_cases h:x=0
 ·by_cases k:y=0
  ·exact .inr (.inl ⟨h,k⟩)
  ·exact .inl ⟨h,by simp;omega,by simp;omega,k⟩
 ·exact .inr (.inr ⟨by simp;omega,h⟩)
theorem mq3 (b m:Mt) (w:World):
  Calls prog 21 #[b.val,m.val] w fun e w'=>e=.returned (.int .i64 (if St.aj1 m b then 0 else 1))/\Below w.heap.size w w':=by
 obtain⟨f,c,a,l⟩:=m;obtain⟨p,q,r,s⟩:=b;obtain⟨R,C⟩:∃R:Int,R=if St.aj1 ⟨f,c,a,l⟩ ⟨p,q,r,s⟩ then 0 else 1:=⟨_,rfl⟩
 rw[<-C];have h1:St.aj1 ⟨f,c,a,l⟩ ⟨p,q,r,s⟩->R=0:=fun h=>by rw[C,if_pos h]
 have h2:¬St.aj1 ⟨f,c,a,l⟩ ⟨p,q,r,s⟩->R=1:=fun h=>by rw[C,if_neg h]
 unfold St.aj1 St.may1 at h1 h2;simp only at h1 h2;have E:=H_ (c_ h1 h2);clear h1 h2;have J:=H_ ((b_ w (.cells #[.int .u64 (p:Int),.int .u64 (q:Int),.int .u64 (r:Int),.int .u64 (s:Int)] 29)).alloc s_ (.cells #[.int .u64 (f:Int),.int .u64 (c:Int),.int .u64 (a:Int),.int .u64 (l:Int)] 29));clear C;unfold Mt.val;simp only;have key:=(xz3 f).imp id fun h=>c_ h ((xz3 c).imp id fun h=>c_ h ((xz3 a).imp id fun h=>c_ h ((xz3 l).imp id fun h=>c_ h ((qw3 f p).imp id fun h=>c_ h ((qw3 c q).imp id fun h=>c_ h ((qw3 a r).imp id fun h=>c_ h (qw3 l s)))))))
 rcases key with ⟨O,Q⟩|⟨⟨O,Q⟩,⟨U,Z⟩|⟨⟨U,Z⟩,⟨e3,g3⟩|⟨⟨e3,g3⟩,⟨e4,g4⟩|⟨⟨e4,g4⟩,⟨rfl,e5,e6,g5⟩|⟨⟨rfl,rfl⟩|⟨e5,g5⟩,⟨rfl,e7,e8,g6⟩|⟨⟨rfl,rfl⟩|⟨e7,g6⟩,⟨rfl,e9,a9,g7⟩|⟨⟨rfl,rfl⟩|⟨e9,g7⟩,⟨rfl,H,b0,g8⟩|⟨⟨rfl,rfl⟩|⟨H,g8⟩⟩⟩⟩⟩⟩⟩⟩⟩
 all_goals
  first
   |have I:=H_ (show R=1 from E.out.2 o_)
   |have I:=H_ (show R=0 from E.out.1 o_)
  clear E;go_enter func21,ntmps21;go_wp2;go_ret;rw[I.out];exact⟨rfl,J.out⟩
structure Aq where
 k:Int
 A:Option Addr
 n:Nat
 c:Nat
 m:Mt
 v:Nat
 s:Int
 x:Int
 y:Int
 z:Int
 K:Option Addr
 kn:Nat
 kc:Nat
 l:List It
def Aq.cells (a:Aq):List Value:=[.int .i64 a.k,.slice a.A a.n a.c,.int .u64 (a.m.floor:Int),.int .u64 (a.m.cert:Int),.int .u64 (a.m.at_:Int),.int .u64 (a.m.lease:Int),.int .u64 (a.v:Int),.int .i64 a.s,.int .i64 a.x,.int .i64 a.y,.int .i64 a.z,.slice a.K a.kn a.kc]
def Aq.val (a:Aq):Value:=.agg #[.int .i64 a.k,.slice a.A a.n a.c,.int .u64 (a.m.floor:Int),.int .u64 (a.m.cert:Int),.int .u64 (a.m.at_:Int),.int .u64 (a.m.lease:Int),.int .u64 (a.v:Int),.int .i64 a.s,.int .i64 a.x,.int .i64 a.y,.int .i64 a.z,.slice a.K a.kn a.kc]
theorem oq4 (a:Aq) (w:World):
  Calls prog 5 #[a.val] w fun e w'=>e=.returned (.bool (decide (a.n<=60) &&decide (a.kn<=60)))/\Below w.heap.size w w':=by
 have H:=H_ (b_ w (.cells #[.int .i64 a.k,.slice a.A a.n a.c,.int .u64 (a.m.floor:Int),.int .u64 (a.m.cert:Int),.int .u64 (a.m.at_:Int),.int .u64 (a.m.lease:Int),.int .u64 (a.v:Int),.int .i64 a.s,.int .i64 a.x,.int .i64 a.y,.int .i64 a.z,.slice a.K a.kn a.kc] 32));unfold Aq.val;obtain⟨R,C⟩:=n_ ((decide (a.n<=60) &&decide (a.kn<=60)));rw[<-C]
 by_cases h1:(a.n:Int)<=60
 ·by_cases h2:(a.kn:Int)<=60
  ·have E:=H_ (show R=true by rw[C];simp;omega)
   clear C;go_enter func5,ntmps5;go_wp2;go_ret;rw[E.out];exact⟨rfl,H.out⟩
  ·have E:=H_ (show R=false by rw[C];simp;omega)
   clear C;go_enter func5,ntmps5;go_wp2;go_ret;rw[E.out];exact⟨rfl,H.out⟩
 ·have E:=H_ (show R=false by rw[C];simp;omega)
  clear C;go_enter func5,ntmps5;go_wp2;go_ret;rw[E.out];exact⟨rfl,H.out⟩
namespace Pl
def Lz (V V':Sv):Prop:=V'.sz<=V.sz/\V'.ct<=V.ct
theorem Lz.refl (V:Sv):Lz V V:=⟨y_ _,y_ _⟩
theorem Lz.trans {A B C:Sv} (h:Lz A B) (k:Lz B C):Lz A C:=⟨j_ k.1 h.1,j_ k.2 h.2⟩
theorem tx4 {S:Sd} {V:Sv} {x:Ed} {D:Sv->Sv} (C:∀V',Lz V V'->Lz V (D V')):Lz V (St.turn S V x D).2.1:=by
 unfold St.turn;split
 ·exact Lz.refl V
 ·simp only
  split
  ·exact C _ (Lz.refl V)
  ·exact Lz.refl V
theorem rw3 (S:Sd) (V:Sv):Lz V (St.flush S V).2.1:=by
 have key:∀(S2:Sd) (add:List (Int×Int)) (tabs:List ((Int×Int)×List (List It))),Lz V (St.by1 S2 V add tabs).2.1:=fun S2 add tabs=>by
  unfold St.by1;simp only;split
  ·exact Lz.refl V
  ·have h:=tx4 (S:=(St.fresh S2).1) (V:=V) (x:=⟨[],add,St.number S2,0,0,0,0⟩) (D:=St.turned (St.number S2) tabs) (fun V' _=>⟨w_ _,w_ _⟩)
   split
   ·exact h
   ·exact h
 unfold St.flush;split
 ·exact Lz.refl V
 split
 ·exact Lz.refl V
 split
 ·exact Lz.refl V
 split
 ·exact key _ _ _
 simp only;split
 ·exact Lz.refl V
 ·exact key _ _ _
theorem qq3 (S:Sd) (V:Sv) (inn:List Int) (lev:Int) (l next:List It):Lz V (St.merge S V inn lev l next).2.1:=by
 unfold St.merge;simp only;split
 ·exact Lz.refl V
 ·have h:=tx4 (S:=(St.writes lev (Tb.cut 200 l.length l) S []).1) (V:=V) (x:=⟨inn,(St.writes lev (Tb.cut 200 l.length l) S []).2.1.map (·.1),0,0,0,0,0⟩) (D:=St.mergeD (V.tabs.filter (fun t=>!decide (t.1.2∈inn))++(St.writes lev (Tb.cut 200 l.length l) S []).2.1) next) (fun V' h=>h)
  split
  ·exact h
  ·exact h
theorem qw4 (S:Sd) (V:Sv) (v:Nat):Lz V (St.ey1 S V v).2.1:=by
 have h:=rw3 S V;unfold St.ey1;simp only;split
 ·exact h
 split
 ·exact h
 ·exact h.trans (qq3 _ _ _ _ _ _)
theorem xj5 (S:Sd) (V:Sv) (pk:Option (List Int×Int)):Lz V (stepW S V pk).2.1:=by
 unfold stepW;split
 ·exact Lz.refl V
 split
 ·exact Lz.refl V
 ·exact qq3 _ _ _ _ _ _
theorem tk5 (S:Sd) (V:Sv) (m:Mt):Lz V (St.setMeta S V m).2.1:=by
 unfold St.setMeta;split
 ·exact Lz.refl V
 ·exact⟨y_ _,y_ _⟩
def Lg_ (V:Sv) (i:Nat):Prop:=V.sz<=2000 *i/\V.ct<=i
theorem Lg_.step {V V':Sv} {i:Nat} (h:Lg_ V i) (k:Lz V V'):Lg_ V' (i+1):=⟨by have:=h.1;have:=k.1;omega,by have:=h.2;have:=k.2;omega⟩
theorem Lg_.apply {S:Sd} {V:Sv} {i:Nat} {l:List It} (h:Lg_ V i) (C:l.length<=60):Lg_ (St.apply S V l).2.1 (i+1):=by
 unfold St.apply;split
 ·exact h.step (Lz.refl V)
 split
 ·exact h.step (Lz.refl V)
 split
 ·exact h.step (Lz.refl V)
 split
 ·exact h.step (Lz.refl V)
 simp only;split
 ·exact h.step (Lz.refl V)
 ·have h1:=Lg.lw2 l
  have h2:=h.1;have h3:=h.2;exact⟨by show V.sz+(Lg.batch l).length<=_;omega,by show V.ct+1<=_;omega⟩
end Pl
section
variable {w w0 w1 w2:World} {X X1 X2:Dw} {S S1 S2:Sd} {Y Y1 Y2:Yw} {V V1 V2:Sv} {g gw i:Nat} {R:Sl} {L:List It} {mt:Mt}
def vz1 (w0:World) (gw i:Nat) (e:Ending) (w':World):Prop:=e=.returned (.bool true)/\∃X S Y V R L mt,Ws w0 w' gw X S Y V R L mt/\Pl.PlI S V L mt (i+1)/\Pl.Lg_ V (i+1)
theorem Ws.radd (h:Ws w0 w gw X S Y V R L mt) (J:Below w.heap.size w w1) {A:Option Addr} {k:Nat} (c:Nat) {C:List It} (O:Row w1.heap.size w1 A k 5 (itc C)) (E:A=R.a/\C=L\/∀a,A=some a->w.heap.size<=a.block):Ws w0 (w1.setCell ⟨gw,2,none⟩ (.slice A k c)) gw X S Y V ⟨A,k,c⟩ C mt:=by
 refine(h.below J).rset A k c C O fun j hj a H I=>?_
 rcases E with ⟨rfl,rfl⟩|E
 ·exact h.rout j hj a H I
 ·have h1:=E a H
  rcases f_.1 I with q|q
  ·have:=h.box.lt
   omega
  ·have:=h.at_.lt _ q
   omega
theorem lk3 (h:SvAt w X S Y V) (E:V.only=false) (A:Option Addr) (c:Nat):
  Calls prog 13 #[.pointer (some ⟨Y.s,0,none⟩),.slice A 0 c] w fun e w'=>e=.returned (.int .i64 1)/\w'=w:=by
 have C:=h.box.cell 10;simp only[Yw.cells,gE0,gE1,E]at C;clear h;go_enter func13,ntmps13;go_wp2;go_ret;exact⟨rfl,rfl⟩
structure Dg (w0 w W:World) (gw g3:Nat) (X:Dw) (S:Sd) (Y:Yw) (V:Sv) (R:Sl) (L:List It) (mt:Mt) (cs:List Value):Prop where
 ws:Ws w0 W gw X S Y V R L mt
 bx:BoxO W 32 g3 cs
 g:gw∉XY X Y/\g3∉XY X Y/\g3≠gw
theorem Dg.born (h:Ws w0 w gw X S Y V R L mt) (cs:Array Value):Dg w0 w (w.alloc (.cells cs 32)) gw w.heap.size X S Y V R L mt cs.toList:=
 ⟨h.below (b_ _ _),BoxO.new w cs 32,h.out,fun C=>by have:=h.at_.lt _ C;omega,by have:=h.box.lt;omega⟩
theorem kz0 {P S a oi v} (h:Hv P S a oi v:=by intro w C;(have m1:=C.1.c1;have m2:=C.1.c2;have a1:=C.2.c1);go_simp;try (with_reducible rfl)):Hv P S a oi v:=h
theorem kz1 {P S a oi v} (h:Hv P S a oi v:=by intro w C;skip;go_simp;try (with_reducible rfl)):Hv P S a oi v:=h
theorem tx5 (h:Ws w0 w gw X S Y V R L mt) (hp:Pl.PlI S V L mt i) (hz:Pl.Lg_ V i) (hi:i<=49) (A:Option Addr) (n c:Nat) (m:Mt) (v:Nat) (s x y z:Int) (K:Option Addr) (kn kc:Nat) (l:List It) (hrow:Row w0.heap.size w0 A n 5 (itc l)) (U:∀x∈l,x.fit) (hn:n<=60):
  Calls prog 7 #[.pointer (some ⟨gw,0,none⟩),.agg #[.int .i64 0,.slice A n c,.int .u64 (m.floor:Int),.int .u64 (m.cert:Int),.int .u64 (m.at_:Int),.int .u64 (m.lease:Int),.int .u64 (v:Int),.int .i64 s,.int .i64 x,.int .i64 y,.int .i64 z,.slice K kn kc]] w (vz1 w0 gw i):=by
 have hd:=Dg.born h #[.int .i64 0,.slice A n c,.int .u64 (m.floor:Int),.int .u64 (m.cert:Int),.int .u64 (m.at_:Int),.int .u64 (m.lease:Int),.int .u64 (v:Int),.int .i64 s,.int .i64 x,.int .i64 y,.int .i64 z,.slice K kn kc];obtain⟨g3,b5⟩:=n_ w.heap.size;obtain⟨W,hW⟩:=n_ (w.alloc (.cells #[.int .i64 0,.slice A n c,.int .u64 (m.floor:Int),.int .u64 (m.cert:Int),.int .u64 (m.at_:Int),.int .u64 (m.lease:Int),.int .u64 (v:Int),.int .i64 s,.int .i64 x,.int .i64 y,.int .i64 z,.slice K kn kc] 32));rw[<-b5,<-hW]at hd;have b6:=hrow.qj;obtain⟨S4,V4,Q,b7⟩:=hp.zv5 o_ o_ U;obtain⟨er,Z⟩:=n_ (Pl.mayC L l);rw[<-Z]at Q b7;have a6:=hz.apply (S:=S) (l:=l) o_;rw[Q]at a6;simp only at a6;have d3:=h.row.qj;have b8:∀H,Below W.heap.size W H->Row H.heap.size H A n 5 (itc l):=fun H hb=>by
  have d4:=hd.ws.bel.trans (hb.mono hd.ws.bel.size);exact(hrow.below d4).up d4.size
 have d5:∀H,Below W.heap.size W H->Calls prog 16 #[.slice R.a R.n R.c,.slice A n c] H fun e w'=>e=.returned (.int .i64 (er:Int))/\Below H.heap.size H w':=fun H hb=>by
  rw[Z];exact ev4 R.a R.n R.c L A n c l H (by have:=hp.len;omega) hp.stt (hd.ws.below hb).row (b8 H hb)
 have has:=hp.asks o_;have b2:∀H,Below W.heap.size W H->Calls prog 13 #[.pointer (some ⟨Y.s,0,none⟩),.slice A n c] H fun e w'=>e=.returned (.int .i64 (er:Int))/\aw1 X Y H w' S4 V4:=fun H hb=>by
  have hs:=(hd.ws.below hb).at_
  by_cases h0:n=0
  ·subst h0
   have d6:l=[]:=ag_.1 b6;have h1:er=1:=by rw[Z,d6];unfold Pl.mayC;rw[if_pos (.inl rfl)]
   have h2:St.apply S V l=(S,V,1):=by
    unfold St.apply;rw[if_neg (by rw[has.only];simp),if_pos (.inl d6)]
   rw[h2]at Q;injection Q with q1 q2;injection q2 with q2 _;subst q1 q2;refine(lk3 hs has.only A c).mono fun e w' ⟨a,b⟩=>⟨by rw[a,h1];rfl,by rw[b];exact aw1.refl hs⟩
  ·have:=oz2 hs A n c l o_ (b8 H hb) (fun a ha hm=>by
    obtain⟨a',e',g8,_⟩:=hrow.cell 0 (by rw[jk];omega);rw[ha]at e';injection e' with e';subst e';have:=h.low _ hm;omega) U (by rw[hp.st];exact hp.stt) (by have:=has.st;omega) (by have:=hz.1;omega) (by have:=hz.2;omega) (by have:=has.mem;omega) (by rw[hp.p.nm];exact ik1 _ _)
   rw[Q]at this;exact this
 have f8:∀H,Below w.heap.size w H->True:=fun _ _=>trivial;have d8:=hp.stt;have d9:=hp.len;have d':=H_ d5;have e1:=H_ b2;have HD:=H_ hd;have HP:=H_ (c_ b7 a6);have HW:=H_ (c_ hW b5);have a7:=H_ (c_ d8 (c_ d9 (c_ d3 (c_ b6 hn))));have e3:=H_ hrow;have e4:=H_ Z;clear d5 b2 hd b7 a6 hW b5 d8 d9 d3 b6 hn b8 Z f8 has Q h hp hz hrow U;go_enter func7,ntmps7;go_wp2_with fail;rw[<-HW.out.1,<-HW.out.2];refine wp_region_held_drew (S:=fun w'=>BoxO w' 39 gw [.pointer (some ⟨X.d,0,none⟩),.pointer (some ⟨Y.s,0,none⟩),.slice R.a R.n R.c,.int .u64 (mt.floor:Int),.int .u64 (mt.cert:Int),.int .u64 (mt.at_:Int),.int .u64 (mt.lease:Int)]/\BoxO w' 32 g3 [.int .i64 0,.slice A n c,.int .u64 (m.floor:Int),.int .u64 (m.cert:Int),.int .u64 (m.at_:Int),.int .u64 (m.lease:Int),.int .u64 (v:Int),.int .i64 s,.int .i64 x,.int .i64 y,.int .i64 z,.slice K kn kc]) rfl ⟨HD.out.ws.box.drew,HD.out.bx.drew⟩ (fun C=>?_);refine w_v 0 C ?_ (k:=kz0);go_simp;refine w_v 1 C ?_ (k:=kz0);go_simp;refine w_v 2 C ?_ (k:=kz0);go_simp;refine w_v 3 C ?_ (k:=kz0);go_simp;refine w_v 4 C ?_ (k:=kz0);go_simp;refine w_v 5 C ?_ (k:=kz0);go_simp;refine w_r 6 fun K E=>?_;go_simp
 with_reducible refine(d'.out _ (ak b0_)).mono ?_
 rintro e w3 ⟨rfl,a8⟩;go_simp;refine E.out _ _ ⟨C.1.below a8,C.2.below a8⟩ ?_;clear C E K;intro C;go_simp;refine w_v 7 C ?_ (k:=kz0);go_simp;refine w_d ?_;have a9:=H_ (az (ak (Below.refl W.heap.size W)) a8);have c9:=H_ C;have f9:((er:Int) !=(er:Int))=false:=by simp
 clear C a8 d';go_wp2_with fail;refine wp_region_held_drew (S:=fun w'=>BoxO w' 39 gw [.pointer (some ⟨X.d,0,none⟩),.pointer (some ⟨Y.s,0,none⟩),.slice R.a R.n R.c,.int .u64 (mt.floor:Int),.int .u64 (mt.cert:Int),.int .u64 (mt.at_:Int),.int .u64 (mt.lease:Int)]/\BoxO w' 32 g3 [.int .i64 0,.slice A n c,.int .u64 (m.floor:Int),.int .u64 (m.cert:Int),.int .u64 (m.at_:Int),.int .u64 (m.lease:Int),.int .u64 (v:Int),.int .i64 s,.int .i64 x,.int .i64 y,.int .i64 z,.slice K kn kc]) rfl ⟨c9.out.1.drew,c9.out.2.drew⟩ (fun C=>?_);refine w_v 0 C ?_ (k:=kz0);go_simp;refine w_v 1 C ?_ (k:=kz0);go_simp;refine w_v 2 C ?_ (k:=kz0);go_simp;refine w_v 3 C ?_ (k:=kz0);go_simp;refine w_v 4 C ?_ (k:=kz0);go_simp;refine w_v 5 C ?_ (k:=kz0);go_simp;refine w_v 7 C ?_ (k:=kz0);go_simp;refine w_r 6 fun K E=>?_;go_simp
 with_reducible refine(e1.out _ (ak a9.out)).mono ?_
 rintro e w4 ⟨rfl,hu⟩;replace hu:=H_ hu;go_simp;refine E.out _ _ ⟨C.1.chg hu.out.c HD.out.g.1,C.2.chg hu.out.c HD.out.g.2.1⟩ ?_;clear C E K;intro C;go_simp;refine w_v 8 C ?_ (k:=kz0);go_simp;refine w_d ?_;obtain⟨X4,Y4,h4,c4⟩:=(HD.out.ws.below (ak a9.out)).upd hu.out;have I:=H_ C;have H4:=H_ h4;have b3:Below w0.heap.size w0 w4:=h4.bel;clear C hu c4 e1 c9 f9
 by_cases h0:er=0
 ·have e0:((er:Int)==0)=true:=by simp[h0]
  have hP:=HP.out;rw[if_pos h0]at hP;have b0:=H_ hP;have HJ:=H_ (nq2 R.a R.n R.c L A n c l w4.drew (by have:=a7.out;omega) a7.out.1 (H4.out.row.below (ak b0_)) (((e3.out.below b3).up b3.size).below (ak b0_)));clear hP HP h0 a9 a7 e4;go_wp2_with fail;refine wp_region_held_drew (S:=fun _=>True) rfl trivial (fun C=>?_);refine w_v 0 C ?_ (k:=kz1);go_simp;refine w_v 1 C ?_ (k:=kz1);go_simp;refine w_v 2 C ?_ (k:=kz1);go_simp;refine w_v 3 C ?_ (k:=kz1);go_simp;refine w_v 5 C ?_ (k:=kz1);go_simp;refine wpAnyH_ready (rs:=[4,6]) (by kernel_rfl) s_ ?_;refine AllReadyH.cons rfl (fun K E=>?_) (AllReadyH.cons rfl (fun K E=>?_) AllReadyH.nil)
  ·have m2:w4.drew.cell? ⟨gw,2,none⟩=some (.slice R.a R.n R.c):=I.out.1.cell 2
   go_simp;refine E.out _ _ trivial ?_;clear C E K;intro C;go_simp;refine w_r 6 fun K E=>?_
   ·have a1:w4.drew.cell? ⟨g3,1,none⟩=some (.slice A n c):=I.out.2.cell 1
    go_simp;refine E.out _ _ trivial ?_;clear C E K;intro C;go_simp;refine w_r 7 fun K E=>?_;go_simp
    refine m_ HJ ?_
    rintro e w6 ⟨A6,k6,c6,rfl,a0,a2,a4,J⟩;replace a0:=H_ a0;go_simp;refine E.out _ _ trivial ?_;clear C E K;intro C;go_simp;refine w_v 8 C ?_ (k:=kz1);go_simp;refine w_v 9 C ?_ (k:=kz1);go_simp;refine w_r 10 fun K E=>?_
    (have O:=I.out.1.drew.below J;have s2:=O.c2;have z2:=O.free 2)
    go_simp;refine E.out _ _ trivial ?_;clear C E K;intro C;go_simp;refine w_d ?_;have d0:=H_ (H4.out.radd (az (ak (Below.refl w4.heap.size w4)) J) c6 a2 (a4.imp (fun q=>q) (fun q a ha=>(q a ha).1)));clear C a2 a4 J O s2 z2 HJ I;go_wp2;go_ret;exact⟨rfl,_,_,_,_,_,_,_,d0.out,b0.out⟩
  ·have a1:w4.drew.cell? ⟨g3,1,none⟩=some (.slice A n c):=I.out.2.cell 1
   go_simp;refine E.out _ _ trivial ?_;clear C E K;intro C;go_simp;refine w_r 4 fun K E=>?_
   ·have m2:w4.drew.cell? ⟨gw,2,none⟩=some (.slice R.a R.n R.c):=I.out.1.cell 2
    go_simp;refine E.out _ _ trivial ?_;clear C E K;intro C;go_simp;refine w_r 7 fun K E=>?_;go_simp
    refine m_ HJ ?_
    rintro e w6 ⟨A6,k6,c6,rfl,a0,a2,a4,J⟩;replace a0:=H_ a0;go_simp;refine E.out _ _ trivial ?_;clear C E K;intro C;go_simp;refine w_v 8 C ?_ (k:=kz1);go_simp;refine w_v 9 C ?_ (k:=kz1);go_simp;refine w_r 10 fun K E=>?_
    (have O:=I.out.1.drew.below J;have s2:=O.c2;have z2:=O.free 2)
    go_simp;refine E.out _ _ trivial ?_;clear C E K;intro C;go_simp;refine w_d ?_;have d0:=H_ (H4.out.radd (az (ak (Below.refl w4.heap.size w4)) J) c6 a2 (a4.imp (fun q=>q) (fun q a ha=>(q a ha).1)));clear C a2 a4 J O s2 z2 HJ I;go_wp2;go_ret;exact⟨rfl,_,_,_,_,_,_,_,d0.out,b0.out⟩
 ·have e0:((er:Int)==0)=false:=by simp;omega
  have hP:=HP.out;rw[if_neg h0]at hP;have b0:=H_ hP;clear hP HP h0 I a9 e3 a7 e4;go_wp2;go_ret;exact⟨rfl,_,_,_,_,_,_,_,H4.out,b0.out⟩
end
end Go.Proofs.YtkdbagdiplpcfaaGreatDoor
