/- Texts PlainGone, GoneA in one. No conditions. -/
import Derived.Test.YthjdpplgfdihoaaGreatDoorBunBK
import Derived.Test.YthjdpplgfdihoaaGreatDoorBunBJ

set_option linter.unusedSimpArgs false
set_option linter.unusedVariables false
set_option maxRecDepth 100000
set_option maxHeartbeats 16000000
namespace Go.Proofs.YthjdpplgfdihoaaGreatDoor
section
open Go
namespace Gn
def t (v:Nat):It:=⟨4,1,0,v,0⟩
def x (u:Nat):It:=⟨4,2,9,u,1⟩
theorem t_ok {v:Nat} (h:1≤v∧v≤100000):(t v).ok=true:=by
 unfold It.ok t;simp;omega
theorem x_ok {v:Nat} (h:1≤v∧v≤100000):(x v).ok=true:=by
 unfold It.ok x;simp;omega
theorem j1 {u:Nat} (h:1≤u∧u≤100000):joins [] [x u]=[x u]:=by
 have h1:hidden [] (x u)=false:=rfl;have h2:dj1 [] (x u)=false:=rfl;show add [] _=_
 unfold add;rw[x_ok h,h1,h2];simp[put,It.hides,x]
theorem lt1 (u v:Nat):It.less (t v) (x u)=true:=by rw[It.vw];simp[t,x]
theorem lt2 (u v:Nat):It.less (x u) (t v)=false:=by rw[It.kj1];simp[t,x]
theorem hd1 {u v:Nat} (h:u≤v):It.hides (t v) (x u)=true:=by simp[It.hides,t,x,h]
theorem hd2 (v w:Nat):It.hides (t v) (t w)=false:=by simp[It.hides,t]
theorem put1 (u v:Nat):put [x u] (t v)=[t v,x u]:=by simp[put,lt1,lt2]
theorem bt1 (u v:Nat):dj1 [x u] (t v)=false:=by simp[dj1,It.same,lt1]
theorem j2 {u v:Nat} (hv:1≤v∧v≤100000) (h:u≤v):joins [x u] [t v]=[t v]:=by
 have h1:hidden [x u] (t v)=false:=by simp[hidden,It.hides,x]
 show add _ _=_
 unfold add;rw[t_ok hv,h1,bt1,put1];simp[hd1 h,hd2]
theorem j3 {v:Nat}:joins [t v] [t v]=[t v]:=by
 have h1:dj1 [t v] (t v)=true:=by simp[dj1,It.yy1,It.wins]
 show add _ _=_
 unfold add;rw[h1];simp
theorem w1 (u:Nat):wput [] (x u)=[x u]:=by
 unfold wput;rw[if_neg (by simp[dj1])];simp[put]
theorem w2 (u v:Nat):wput [x u] (t v)=[t v,x u]:=by
 unfold wput;rw[if_neg (by simp[bt1]),put1]
theorem fq5 (u v:Nat):([t v,x u].filter fun y=>decide (y∈[t v]))=[t v]:=by
 have:x u≠t v:=by simp[x,t]
 simp[this]
theorem pg {v f:Nat} (h:v≤f):fz1 [t v] f=[]:=by simp[fz1,t,h]
theorem kv5 (v:Nat):Mg.rows [[t v]]=[t v]:=by
 simp[Mg.rows,Mg.tot,Mg.run,Mg.sel,Mg.hd,Mg.put]
theorem iz5 (v:Nat):clean [t v]=[t v]:=by simp[clean,hidden,hd2]
theorem good1 {v:Nat} (h:1≤v∧v≤100000):Tb.good [t v]=true:=by
 unfold Tb.good;simp[t_ok h,uq]
theorem iy5 (v:Nat):Tb.rows [t v]=[[t v]]:=by simp[Tb.rows,Tb.cut]
structure G (S:Sd) (V:Sv) (c d:Nat) (mem st:List It) (ct:Nat):Prop where
 ns:Nd.NS 1048576 S V c d
 mem:V.mem=mem
 st:V.st=st
 ct:V.ct=ct
 log:V.M.v.log=1
theorem uj4 {S S':Sd} {V V':Sv} {l:List It} (h:St.apply S V l=(S',V',0)):V'.mem=l.foldl wput V.mem∧V'.ct=V.ct+1:=by
 unfold St.apply at h;simp only at h;split at h
 ·simp at h
 ·split at h
  ·simp at h
  ·split at h
   ·simp at h
   ·split at h
    ·simp at h
    ·split at h
     ·rename_i h2
      injection h with _ h;injection h with _ h;exact absurd h h2
     ·injection h with _ h
      injection h with h _;subst h;exact⟨rfl,rfl⟩
variable {S:Sd} {V:Sv} {c d ct:Nat} {mem st:List It}
theorem G.put (h:G S V c d mem st ct) (hc:c+2000≤70000) {a:It} {st':List It} (ha:a.ok=true) (hj:joins st [a]=st') (hn:st'≠st) (hl:st'.length≤1500) (hf:V.M.v.floor < a.v):
  ∃S' V',St.put S V [a]=(S',V',some (2,0,[]))∧G S' V' (c+54) d (wput mem a) st' (ct+1)∧V'.M=V.M:=by
 have hj':joins V.st [a]=st':=by rw[h.st];exact hj
 obtain⟨S1,V1,h1,h2,h3,h4⟩:=h.ns.apply (l:=[a]) (by omega) hc (by simp) (by simp[ha]) (by simp) (by rw[hj'];exact hl);obtain⟨S2,h5,h6⟩:=h2.sync;obtain⟨m1,m2⟩:=uj4 h1;refine⟨S2,V1,?_,⟨h6.mono (by simp) l_,by rw[m1,h.mem];rfl,by rw[h3,hj'],by rw[m2,h.ct],by rw[h4];exact h.log⟩,h4⟩;have hla:St.last S V [a]=(S2,V1,true):=by
  unfold St.last;rw[if_neg (by rw[hj',h.st];exact hn),h1];simp only[ne_eq,not_true_eq_false,if_false,h5];rfl
 unfold St.put;rw[if_neg (by simp;exact hf),hla,if_pos rfl]
theorem dj3 (S:Sd) (V:Sv) (m:Mt):(St.setMeta S V m).2.1.mem=V.mem∧(St.setMeta S V m).2.1.ct=V.ct:=by
 unfold St.setMeta St.saved;split<;>exact⟨rfl,rfl⟩
theorem G.setm (h:G S V c d mem st ct) (hd:d+2012≤70000) {m:Mt} (hm:St.tz1 m (St.oz V)):
  ∃S' V',St.setMeta S V m=(S',V',0)∧G S' V' c (d+2012) mem st ct∧V'.M.v={ V.M.v with floor:=m.floor,cert:=m.cert,at_:=m.at_,lease:=m.lease }:=by
 obtain⟨S',V',h1,h2,h3,h4⟩:=h.ns.setm (by omega) hd hm;have hq:=dj3 S V m;rw[h1]at hq;exact⟨S',V',h1,⟨h2,hq.1.trans h.mem,h3.trans h.st,hq.2.trans h.ct,by rw[h4];exact h.log⟩,h4⟩
theorem G.same (h:G S V c d mem st ct) {l:List It} (hj:joins st l=st):∃S',St.last S V l=(S',V,true)∧G S' V c d mem st ct:=by
 obtain⟨S',h1,h2⟩:=h.ns.sync;refine⟨S',?_,⟨h2,h.mem,h.st,h.ct,h.log⟩⟩;unfold St.last;rw[if_pos (by rw[h.st];exact hj),h1];rfl
theorem five (S0:Sd) (h:Nd.NS 1048576 S0 Nd.v0 0 100) {u v:Nat} (hu:1≤u∧u≤v) (hv:v≤90000):
  ∃S1 V1,St.put S0 Nd.v0 [x u]=(S1,V1,some (2,0,[]))∧Nrm V1∧V1.M.v=Nd.v0.M.v∧∃S2 V2,St.put S1 V1 [t v]=(S2,V2,some (2,0,[]))∧Nrm V2∧V2.M.v=Nd.v0.M.v∧V2.st=[t v]∧
   ∃S3 V3,St.seal S2 V2 (v+5)=(S3,V3,some (7,v+5,[t v]))∧Nrm V3∧V3.M.v={ Nd.v0.M.v with floor:=v+5 }∧
   ∃S4,St.fill S3 V3 (v+5) [t v]=(S4,V3,true)∧
   ∃S5 V5,St.even S4 V3 (v+5) 0=(S5,V5)∧G S5 V5 108 4124 [t v,x u] [t v] 2∧V5.M.v={ Nd.v0.M.v with floor:=v+5,cert:=v+5 }:=by
 have g0:G S0 Nd.v0 0 100 [] [] 0:=⟨h,rfl,rfl,rfl,rfl⟩;have hz:Nd.v0.M.v.floor=0∧Nd.v0.M.v.cert=0∧Nd.v0.M.v.at_=0∧Nd.v0.M.v.lease=0:=⟨rfl,rfl,rfl,rfl⟩;obtain⟨S1,V1,p1,g1,q1⟩:=g0.put (a:=x u) (by omega) (x_ok (by omega)) (j1 (by omega)) (by simp) (by simp) (by rw[hz.1];show 0 < u;omega);rw[w1]at g1;obtain⟨S2,V2,p2,g2,q2⟩:=g1.put (a:=t v) (by omega) (t_ok (by omega)) (j2 (by omega) hu.2) (by simp[x,t]) (by simp) (by rw[q1,hz.1];show 0 < v;omega);rw[w2]at g2;rw[q1]at q2;have e2:V2.M.v=Nd.v0.M.v:=by rw[q2]
 have f2:V2.M.v.floor=0:=by rw[e2];rfl
 obtain⟨S3,V3,p3,g3,q3⟩:=g2.setm (by omega) (m:={ St.oz V2 with floor:=v+5 }) ⟨⟨by show v+5≤_;omega,fun e=>absurd e (by simp)⟩,⟨by show V2.M.v.cert≤_;rw[e2];exact t_ _,fun e=>e⟩,⟨by show V2.M.v.at_≤_;rw[e2];exact t_ _,fun e=>e⟩,⟨by show V2.M.v.lease≤_;rw[e2];exact t_ _,fun e=>e⟩⟩;have e3:V3.M.v={ Nd.v0.M.v with floor:=v+5 }:=by rw[q3];simp only[St.oz];rw[e2]
 have hup:upto [t v] (v+5)=[t v]:=by simp[upto,t]
 obtain⟨S4,p4,g4⟩:=g3.same (l:=[t v]) j3;obtain⟨S5,V5,p5,g5,q5⟩:=g4.setm (by omega) (m:={ St.oz V3 with cert:=v+5,at_:=0 }) ⟨⟨by show V3.M.v.floor≤_;rw[e3];show v+5≤_;omega,fun e=>e⟩,⟨by show v+5≤_;omega,fun e=>absurd e (by simp)⟩,⟨t_ _,fun _=>by show V3.M.v.at_=0;rw[e3];rfl⟩,⟨by show V3.M.v.lease≤_;rw[e3];exact t_ _,fun e=>e⟩⟩;refine⟨S1,V1,p1,g1.ns.nrm (by omega) (by omega) (by rw[g1.st];simp),by rw[q1],S2,V2,p2,g2.ns.nrm (by omega) (by omega) (by rw[g2.st];simp),e2,g2.st,S3,V3,?_,g3.ns.nrm (by omega) (by omega) (by rw[g3.st];simp),e3,S4,?_,S5,V5,?_,g5,by rw[q5];simp only[St.oz];rw[e3];rfl⟩
 ·unfold St.seal
  rw[if_neg (by rw[f2];omega),if_neg (by rw[f2];omega),p3,if_pos rfl,g2.st,hup]
 ·unfold St.fill
  rw[if_pos (by
   unfold Mt.fills St.oz;rw[e3];simp[Nd.v0,St.first]),hup,p4]
 ·unfold St.even
  rw[if_neg (by
   rw[e3];simp[Nd.v0,St.first]),p5]
theorem gk1 {l:List (List UInt8)} {k:List UInt8} {m:Int} (h1:∀s∈l,(Mn.number s k).getD 0≤m) (h0:0≤m) (h2:m=0∨∃s∈l,(Mn.number s k).getD 0=m):Mn.greatest l k=m:=by
 have key:∀(l:List (List UInt8)) (a:Int),a≤m→(∀s∈l,(Mn.number s k).getD 0≤m)→(a=m∨∃s∈l,(Mn.number s k).getD 0=m)→l.foldl (fun m s=>max m ((Mn.number s k).getD 0)) a=m:=by
  intro l
  induction l with
  |nil=>
   intro a ha _ h
   rcases h with h|⟨s,hs,_⟩
   ·exact h
   ·cases hs
  |cons b l ih=>
   intro a ha hl h;have hb:=hl b m_;refine ih _ (by show max a _≤m;omega) (fun s hs=>hl s (f_ _ hs)) ?_
   rcases h with h|⟨s,hs,h⟩
   ·exact .inl (by show max a _=m;omega)
   ·rcases g_.1 hs with rfl|hs
    ·exact .inl (by show max a _=m;omega)
    ·exact .inr ⟨s,hs,h⟩
 exact key l 0 h0 h1 (h2.imp Eq.symm id)
def tab2:List UInt8:=Mn.name Mn.kTab 2
def log3:List UInt8:=Mn.name Mn.kLog 3
theorem iy4 {q:Int} {S:Sd} (hq:q≤1099511627776) (e:St.create (Sd.new q)=(S,some Nd.v0,0)):S.load≤1000:=by
 have hl:(Sd.new q).list=[]:=by simp[Sd.list,Sd.new]
 have h1:=Sd.dy1 (Sd.new q) St.jy;have h2:(Sd.new q).load=0:=rfl;have hw:(((Sd.new q).create St.jy).1.sync St.jy).1.Wf:=((Sd.ay4 q hq).create St.jy).sync St.jy;have h3:=Gw.uq2 hw St.first (Mn.name Mn.kMan 1)
 rw[Sd.bw1]at h3;have hwp:St.wipe (Sd.new q).list (Sd.new q)=(Sd.new q,0):=by rw[hl];rfl
 unfold St.create at e;rw[hwp]at e;simp only at e;rw[if_neg (by simp)]at e
 by_cases q1:((Sd.new q).create St.jy).2=0
 ·by_cases q2:(((Sd.new q).create St.jy).1.sync St.jy).2=0
  ·by_cases q3:(Gw.rewrite (((Sd.new q).create St.jy).1.sync St.jy).1 St.first (Mn.name Mn.kMan 1)).2.2=0
   ·rw[if_neg (not_not_intro q1),if_neg (not_not_intro q2),if_neg (not_not_intro q3)]at e
    injection e with e;rw[←e];omega
   ·rw[if_neg (not_not_intro q1),if_neg (not_not_intro q2),if_pos q3]at e
    simp at e
  ·rw[if_neg (not_not_intro q1),if_pos q2]at e
   simp at e
 ·rw[if_pos q1]at e
  simp at e
variable {u v:Nat}
def Vf (V:Sv) (v:Nat):Sv:={ V with M:={ V.M with count:=V.M.count+1,v:={ V.M.v with log:=3,files:=[(0,2)] } },nm:=log3,sz:=0,ct:=0,mem:=[],tabs:=[((0,2),[[t v]])] }
structure F (S:Sd) (V:Sv):Prop where
 calm:Calm S
 quota:S.quota=1048576
 small:Small S [tab2,log3,Mw.man 1,Mw.kCur] 100000
 tab:∃x,cont S tab2=some x
 man:∃x,cont S (Mw.man 1)=some x∧x.length≤9000
 load:S.load≤1010
theorem flush (h:G S V 108 4124 [t v,x u] [t v] 2) (hl:S.load≤1000):∃S1,St.flush S V=(S1,Vf V v,0)∧F S1 V:=by
 have n1:tab2≠St.jy:=by decide+kernel
 have n2:tab2≠Mw.man 1:=by decide+kernel
 have n3:tab2≠Mw.kCur:=by decide+kernel
 have n4:log3≠St.jy:=by decide+kernel
 have n5:log3≠Mw.man 1:=by decide+kernel
 have n6:log3≠Mw.kCur:=by decide+kernel
 have n7:log3≠tab2:=by decide+kernel
 have n8:Mw.man 1≠St.jy:=by decide+kernel
 have d1:Sd.named tab2=true:=by decide+kernel
 have d2:Sd.named log3=true:=by decide+kernel
 have d3:Sd.named (Mw.man 1)=true:=by decide+kernel
 have d4:Sd.named St.jy=true:=by decide+kernel
 obtain⟨lg,hlg,hlgl⟩:=h.ns.log;obtain⟨mn,hmn,hmnl⟩:=h.ns.man;have hq:S.quota=1048576:=by have:=h.ns.quota;omega
 have hlive:St.live V=[t v]:=by
  unfold St.live;rw[h.mem,h.st];exact fq5 u v
 have hmk:=Tb.ey3 (l:=[t v]) (by simp);have hnum:St.number S=2:=by
  unfold St.number;rw[gk1 (k:=Mn.kLog) (m:=1) (fun s hs=>?_) (by omega) (.inr ⟨St.jy,h.ns.calm.ej1.2 ⟨_,hlg⟩,by decide+kernel⟩),gk1 (k:=Mn.kTab) (m:=0) (fun s hs=>?_) (by omega) (.inl rfl)]
  ·rfl
  all_goals
   obtain⟨y,hy⟩:=h.ns.calm.ej1.1 hs;have:=h.ns.small.names s y hy;simp only[g_,ar_,or_false]at this
   rcases this with rfl|rfl|rfl<;>decide+kernel
 have hno:∀s,s≠St.jy→s≠Mw.man 1→s≠Mw.kCur→cont S s=none:=fun s h1 h2 h3=>by
  cases hc:cont S s with
  |none=>rfl
  |some y=>
   have:=h.ns.small.names s y hc;simp only[g_,ar_,or_false]at this
   rcases this with e|e|e
   ·exact absurd e h1
   ·exact absurd e h2
   ·exact absurd e h3
 obtain⟨l1,l2⟩:=h.ns.calm.qj h.ns.small;simp only[r_,R_]at l1 l2;obtain⟨a1,a2,a3,a4⟩:=h.ns.calm.create d1 (hno _ n1 n2 n3) (by omega);have sa:Small (S.create tab2).1 [tab2,St.jy,Mw.man 1,Mw.kCur] 100000:=⟨fun s y hy=>by
  rw[a3,upd]at hy;split at hy
  ·subst_vars;simp
  ·exact f_ _ (h.ns.small.names s y hy),fun s y hy=>by
  rw[a3,upd]at hy;split at hy
  ·injection hy with hy;subst hy;simp
  ·exact h_ (h.ns.small.len s y hy) (by omega)⟩
 obtain⟨l3,l4⟩:=a2.qj sa;simp only[r_,R_]at l3 l4;obtain⟨b1,b2,b3,b4⟩:=a2.append d1 (x:=[]) (by rw[a3,upd,if_pos rfl]) (Tb.make [t v]) (by simp;omega) (by rw[a4,hq];omega);have hbt:cont ((S.create tab2).1.append tab2 (Tb.make [t v])).1 tab2=some (Tb.make [t v]):=by rw[b3,upd,if_pos rfl,y_]
 obtain⟨c1,c2,c3,c4⟩:=b2.sync d1 hbt;obtain⟨Sc,hSc⟩:=n_ ((((S.create tab2).1.append tab2 (Tb.make [t v])).1.sync tab2).1);have hwr:St.write S [t v]=(Sc,0):=by
  unfold St.write;rw[hnum,if_neg (by decide),if_neg (by rw[show Mn.name Mn.kTab 2=tab2 from rfl,a1];simp)];simp only[show Mn.name Mn.kTab 2=tab2 from rfl,b1];rw[if_neg (by simp),hSc];exact Prod.ext rfl c1
 have hcc:cont Sc=upd (upd (cont S) tab2 (some [])) tab2 (some (Tb.make [t v])):=by rw[hSc,c3,b3,a3,y_]
 have hcq:Sc.quota=1048576:=by rw[hSc,c4,b4,a4,hq]
 have hcm:Calm Sc:=by rw[hSc];exact c2
 have hcl:Sc.load≤S.load+3:=by
  have:=yj S [t v];rw[hwr]at this;exact this
 have hct:cont Sc tab2=some (Tb.make [t v]):=by rw[hcc,upd,if_pos rfl]
 have hcs:∀s,s≠tab2→cont Sc s=cont S s:=fun s hs=>by rw[hcc,upd,if_neg hs,upd,if_neg hs]
 clear hSc c1 c2 c3 c4 b1 b2 b3 b4 hbt l3 l4 sa a1 a2 a3 a4 hcc;have sc:Small Sc [tab2,St.jy,Mw.man 1,Mw.kCur] 100000:=⟨fun s y hy=>by
  by_cases hs:s=tab2
  ·rw[hs];simp
  ·rw[hcs s hs]at hy
   exact f_ _ (h.ns.small.names s y hy),fun s y hy=>by
  by_cases hs:s=tab2
  ·rw[hs,hct]at hy
   injection hy with hy;rw[←hy];exact hmk
  ·rw[hcs s hs]at hy
   exact h_ (h.ns.small.len s y hy) (by omega)⟩
 have hnum2:St.number Sc=3:=by
  unfold St.number;rw[gk1 (k:=Mn.kLog) (m:=1) (fun s hs=>?_) (by omega) (.inr ⟨St.jy,hcm.ej1.2 ⟨lg,by rw[hcs _ n1.symm];exact hlg⟩,by decide+kernel⟩),gk1 (k:=Mn.kTab) (m:=2) (fun s hs=>?_) (by omega) (.inr ⟨tab2,hcm.ej1.2 ⟨_,hct⟩,by decide+kernel⟩)]
  ·rfl
  all_goals
   obtain⟨y,hy⟩:=hcm.ej1.1 hs;have:=sc.names s y hy;simp only[g_,ar_,or_false]at this
   rcases this with rfl|rfl|rfl|rfl<;>decide+kernel
 obtain⟨l3,l4⟩:=hcm.qj sc;simp only[r_,R_]at l3 l4;obtain⟨a1,a2,a3,a4⟩:=hcm.create d2 (by rw[hcs _ n7];exact hno _ n4 n5 n6) (by omega);obtain⟨b1,b2,b3,b4⟩:=a2.sync d2 (x:=[]) (by rw[a3,upd,if_pos rfl]);have hfr:St.fresh Sc=(((Sc.create log3).1.sync log3).1,0):=by
  unfold St.fresh;rw[hnum2,if_neg (by decide),if_neg (by rw[show Mn.name Mn.kLog 3=log3 from rfl,a1];simp)];simp only[show Mn.name Mn.kLog 3=log3 from rfl];exact Prod.ext rfl b1
 obtain⟨Sd1,hSd1⟩:=n_ (((Sc.create log3).1.sync log3).1);have hdl:Sd1.load≤Sc.load+3:=by
  have:=iv2 Sc;rw[hfr,←hSd1]at this;exact this
 rw[←hSd1]at hfr b2 b3 b4;obtain⟨e1,e2,e3,e4⟩:=b2.ay;have hel:=Sd.yx Sd1;obtain⟨Se,hSe⟩:=n_ Sd1.ay.1;rw[←hSe]at e2 e3 e4 hel;have hce:∀s,s≠log3→cont Se s=cont Sc s:=fun s hs=>by rw[e3,b3,a3,upd,if_neg hs]
 have hcel:cont Se log3=some []:=by rw[e3,b3,a3,upd,if_pos rfl]
 have se:Small Se [log3,tab2,St.jy,Mw.man 1,Mw.kCur] 100000:=⟨fun s y hy=>by
  by_cases hs:s=log3
  ·rw[hs];simp
  ·rw[hce s hs]at hy
   exact f_ _ (sc.names s y hy),fun s y hy=>by
  by_cases hs:s=log3
  ·rw[hs,hcel]at hy
   injection hy with hy;rw[←hy];simp
  ·rw[hce s hs]at hy
   exact sc.len s y hy⟩
 obtain⟨l5,l6⟩:=e2.qj se;simp only[r_,R_]at l5 l6;have hmne:cont Se (Mw.man 1)=some mn:=by rw[hce _ n5.symm,hcs _ n2.symm];exact hmn
 obtain⟨ed,hed⟩:∃ed:Ed,ed=⟨[],[(0,2)],3,0,0,0,0⟩:=⟨_,rfl⟩;have hmay:ed.may=true:=by rw[hed];decide
 have hrl:=Ed.sq1 hmay;obtain⟨f1,f2,f3,f4⟩:=e2.append d3 hmne ed.rec_ (by omega) (by rw[e4,b4,a4,hcq];omega);obtain⟨g1,g2,g3,g4⟩:=f2.sync d3 (x:=mn++ed.rec_) (by rw[f3,upd,if_pos rfl]);have happ:V.M.v.app ed=some { V.M.v with log:=3,files:=[(0,2)] }:=by
  have hok:=h.ns.ok;have hf:=h.ns.files;rw[hed];unfold Vw.app dropAll orElse;simp only[hf,y_,if_true];rw[if_pos (by
   simp only[Vw.ok,K_,decide_eq_true_eq]at hok ⊢;exact⟨⟨⟨⟨by rw[if_neg (by decide)];decide,by decide⟩,hok.1.1.2⟩,by decide⟩,by decide⟩)]
  simp
 have hsv:Gw.save Se V.M ed=(((Se.append (Mw.man 1) ed.rec_).1.sync (Mw.man 1)).1,{ V.M with count:=V.M.count+1,v:={ V.M.v with log:=3,files:=[(0,2)] } },0):=by
  unfold Gw.save;rw[if_neg (by rw[h.ns.br];simp),if_neg (by rw[hmay];simp),happ];simp only;unfold Gw.put;rw[h.ns.name,if_neg (by simp[f1]),if_neg (by simp[g1])]
 obtain⟨Sg,hSg⟩:=n_ (((Se.append (Mw.man 1) ed.rec_).1.sync (Mw.man 1)).1);have hgl:Sg.load=Se.load:=by rw[hSg,Sd.bw1,Sd.av1]
 rw[←hSg]at hsv g2 g3 g4;have hcg:cont Sg=upd (cont Se) (Mw.man 1) (some (mn++ed.rec_)):=by rw[g3,f3]
 have hlgg:cont Sg St.jy=some lg:=by rw[hcg,upd,if_neg n8.symm,hce _ n4.symm,hcs _ n1.symm];exact hlg
 obtain⟨k1,k2,k3,k4⟩:=g2.remove d4 hlgg;have hkl:=Sd.bq1 Sg St.jy;have htn:St.turn Sd1 V ed (St.turned 3 [((0,2),[[t v]])])=(Sg,Vf V v,0):=by
  unfold St.turn;rw[if_neg (by rw[e1];simp),←hSe];unfold St.saved;rw[hsv];simp only[true_or,if_true,St.turned,Vf,h.ns.br,h.ns.only,bV_];rfl
 refine⟨(Sg.remove St.jy).1,?_,k2,by rw[k4,g4,f4,e4,b4,a4,hcq],⟨fun s y hy=>?_,fun s y hy=>?_⟩,⟨Tb.make [t v],?_⟩,⟨mn++ed.rec_,?_,by rw[e_];omega⟩,by omega⟩
 ·unfold St.flush
  rw[if_neg (by rw[h.ns.only];simp),if_neg (by rw[h.ct];simp),if_neg (by rw[h.ns.tabs];simp),hlive,if_neg (by simp),hwr,if_neg (by simp),hnum,iy5,h.ns.tabs,y_];unfold St.sw2;rw[hfr,if_neg (by simp),hnum2,←hed,htn,if_pos rfl,h.log,show Mn.name Mn.kLog 1=St.jy by decide+kernel]
 ·rw[k3,upd]at hy
  split at hy
  ·cases hy
  ·rename_i hne
   have:s∈[log3,tab2,St.jy,Mw.man 1,Mw.kCur]:=by
    by_cases hs:s=Mw.man 1
    ·rw[hs];simp
    ·rw[hcg,upd,if_neg hs]at hy
     exact se.names s y hy
   simp only[g_,ar_,or_false]at this ⊢
   rcases this with e|e|e|e|e
   ·exact .inr (.inl e)
   ·exact .inl e
   ·exact absurd e hne
   ·exact .inr (.inr (.inl e))
   ·exact .inr (.inr (.inr e))
 ·rw[k3,upd]at hy
  split at hy
  ·cases hy
  ·by_cases hs:s=Mw.man 1
   ·rw[hs,hcg,upd,if_pos rfl]at hy
    injection hy with hy;rw[←hy,e_];omega
   ·rw[hcg,upd,if_neg hs]at hy
    exact se.len s y hy
 ·rw[k3,upd,if_neg n1,hcg,upd,if_neg n2,hce _ n7.symm]
  exact hct
 ·rw[k3,upd,if_neg n8,hcg,upd,if_pos rfl]
theorem pl1 (V:Sv) {v f:Nat} (h:v≤f):St.pl (Vf V v) f=[]:=by
 unfold St.pl Vf;simp only[aw_,bb_,b6_,List.flatten_nil,aU_];rw[kv5,iz5,pg h]
theorem mok (h:G S V 108 4124 [t v,x u] [t v] 2):hz5 (Vf V v) (v+5):=by
 have hp:=pl1 V (show v≤v+5 by omega);have hc:=h.ns.count;refine⟨by show V.st.length≤_;rw[h.st];simp,by simp[Vf],by show V.M.count+1≤_;omega,by show V.M.name.length≤_;rw[h.ns.name];decide+kernel,by simp[Vf],fun y hy=>?_,fun y hy=>?_,by simp[Vf,Mg.tot],by rw[hp];simp,fun y hy=>(by rw[hp]at hy;cases hy),fun r hr=>(by rw[hp]at hr;simp[Tb.cut]at hr)⟩
 all_goals
  simp only[Vf,c_]at hy;subst hy;simp
def Vp (V:Sv):Sv:={ V with M:={ V.M with count:=V.M.count+2,v:={ V.M.v with log:=3,files:=[] } },nm:=log3,sz:=0,ct:=0,mem:=[],tabs:=[],st:=[] }
theorem ey5 (h:G S V 108 4124 [t v,x u] [t v] 2) (hl:S.load≤1000):∃S6,St.pk1 S V (v+5)=(S6,Vp V,0):=by
 obtain⟨S1,hf,hF⟩:=flush h hl;have d1:Sd.named tab2=true:=by decide+kernel
 have d3:Sd.named (Mw.man 1)=true:=by decide+kernel
 have n2:tab2≠Mw.man 1:=by decide+kernel
 obtain⟨mn,hmn,hmnl⟩:=hF.man;obtain⟨tx,htx⟩:=hF.tab;obtain⟨e1,e2,e3,e4⟩:=hF.calm.ay;obtain⟨Se,hSe⟩:=n_ S1.ay.1;rw[←hSe]at e2 e3 e4;have se:Small Se [tab2,log3,Mw.man 1,Mw.kCur] 100000:=⟨by rw[e3];exact hF.small.names,by rw[e3];exact hF.small.len⟩;obtain⟨l5,l6⟩:=e2.qj se;simp only[r_,R_]at l5 l6;obtain⟨ed,hed⟩:∃ed:Ed,ed=⟨[2],[],0,0,0,0,0⟩:=⟨_,rfl⟩;have hmay:ed.may=true:=by rw[hed];decide
 have hrl:=Ed.sq1 hmay;have hq:=hF.quota;obtain⟨f1,f2,f3,f4⟩:=e2.append d3 (x:=mn) (by rw[e3];exact hmn) ed.rec_ (by omega) (by omega);obtain⟨g1,g2,g3,g4⟩:=f2.sync d3 (x:=mn++ed.rec_) (by rw[f3,upd,if_pos rfl]);have happ:(Vf V v).M.v.app ed=some { V.M.v with log:=3,files:=[] }:=by
  have hok:=h.ns.ok;rw[hed];unfold Vw.app Vf;rw[show dropAll [2] [((0:Int),(2:Int))]=some [] by decide];unfold orElse;simp only[y_,if_true];rw[if_pos (by
   simp only[Vw.ok,K_,decide_eq_true_eq]at hok ⊢;exact⟨⟨⟨⟨by decide,by decide⟩,hok.1.1.2⟩,by decide⟩,by decide⟩)]
 obtain⟨Sg,hSg⟩:=n_ (((Se.append (Mw.man 1) ed.rec_).1.sync (Mw.man 1)).1);have hsv:Gw.save Se (Vf V v).M ed=(Sg,{ V.M with count:=V.M.count+2,v:={ V.M.v with log:=3,files:=[] } },0):=by
  unfold Gw.save;rw[if_neg (by rw[show (Vf V v).M.broken=V.M.broken from rfl,h.ns.br];simp),if_neg (by rw[hmay];simp),happ];simp only;unfold Gw.put;rw[show (Vf V v).M.name=V.M.name from rfl,h.ns.name,if_neg (by simp[f1]),if_neg (by simp[g1]),←hSg];simp[Vf]
 have htn:St.turn S1 (Vf V v) ed (St.mergeD [] [])=(Sg,Vp V,0):=by
  unfold St.turn;rw[if_neg (by rw[e1];simp),←hSe];unfold St.saved;rw[hsv];simp only[true_or,if_true,St.mergeD,Vf,Vp,h.ns.br,h.ns.only,bV_]
 have hms:St.merge S1 (Vf V v) [2] 3 [] []=(St.drops [2] Sg,Vp V,0):=by
  rw[St.lq3 (S1:=S1) (acc:=[]) (by simp[Tb.cut,St.writes])];rw[show (Vf V v).tabs.filter (fun t=>!decide (t.1.2∈[(2:Int)]))++[]=[] by simp[Vf],bb_,←hed,htn,if_pos rfl]
 refine⟨St.drops [2] Sg,?_⟩;unfold St.pk1;rw[hf];simp only;rw[if_neg (by simp),show (Vf V v).st=[t v] from h.st,pg (by omega),if_neg (by simp)];have hp:=pl1 V (show v≤v+5 by omega);unfold St.pl at hp;rw[hp];exact hms
theorem ek5 (h:G S V 108 4124 [t v,x u] [t v] 2):Nrm (Vp V):=by
 have hc:=h.ns.count;exact⟨rfl,Stt.nil,t_ _,t_ _,t_ _,t_ _,by show log3.length≤_;decide+kernel,t_ _,by show V.M.count+2≤_;omega,by show V.M.name.length≤_;rw[h.ns.name];decide+kernel⟩
theorem yx3 (S:Sd) (V:Sv):(St.sync S V).1.load=S.load:=by
 unfold St.sync
 repeat' split
 all_goals first|rfl|exact Sd.bw1 _ _
theorem lx3 (S:Sd) (V:Sv) (l:List It):(St.apply S V l).1.load=S.load:=by
 unfold St.apply;simp only
 repeat' split
 all_goals first|rfl|exact Sd.av1 _ _ _
theorem iz4 (S:Sd) (V:Sv) (l:List It):(St.last S V l).1.load=S.load:=by
 unfold St.last
 repeat' split
 ·exact yx3 _ _
 ·exact lx3 _ _ _
 ·exact(yx3 _ _).trans (lx3 _ _ _)
theorem fy2 (S:Sd) (V:Sv) (m:Mt):(St.setMeta S V m).1.load=S.load:=by
 unfold St.setMeta St.saved;split
 ·rfl
 ·exact dj2 _ _ _
theorem vx4 (S:Sd) (V:Sv) (l:List It):(St.put S V l).1.load=S.load:=by
 unfold St.put
 repeat' split
 all_goals first|rfl|exact iz4 _ _ _
theorem dx5 (S:Sd) (V:Sv) (f:Nat):(St.seal S V f).1.load=S.load:=by
 unfold St.seal
 repeat' split
 all_goals first|rfl|exact fy2 _ _ _
theorem zw4 (S:Sd) (V:Sv) (f:Nat) (l:List It):(St.fill S V f l).1.load=S.load:=by
 unfold St.fill
 repeat' split
 all_goals first|rfl|exact iz4 _ _ _
theorem cz5 (S:Sd) (V:Sv) (f now:Nat):(St.even S V f now).1.load=S.load:=by
 unfold St.even
 repeat' split
 all_goals first|rfl|exact fy2 _ _ _
end Gn
end
section
open Go Go.RowKit Go.Lib Go.Shelf
variable {w w0 w1 w2:World} {X X1 X2:Dw} {S S1 S2:Sd} {Y Y1 Y2:Yw} {V V1 V2:Sv} {nb now grace:Nat} {ni:Int}
structure GnI (w0 w:World) (nb:Nat) (L:List (Nat×TypeId×List Value)) (X:Dw) (S:Sd) (Y:Yw) (V:Sv) (now grace:Nat):Prop where
 nd:NdW w0 w X S Y V nb 0 now grace
 own:∀p∈L,BoxO w p.2.1 p.1 p.2.2∧p.1∉XY X Y∧p.1≠nb
 lb:w0.heap.size≤nb
variable {L:List (Nat×TypeId×List Value)}
theorem GnI.below (h:GnI w0 w nb L X S Y V now grace) (hb:Below w.heap.size w w1):GnI w0 w1 nb L X S Y V now grace:=
 ⟨h.nd.below hb,fun p hp=>⟨(h.own p hp).1.below hb,(h.own p hp).2⟩,h.lb⟩
theorem GnI.add (h:GnI w0 w nb L X S Y V now grace) (cs:Array Value) (e:TypeId):GnI w0 (w.alloc (.cells cs e)) nb ((w.heap.size,e,cs.toList)::L) X S Y V now grace:=by
 have h1:=h.below (b_ w (.cells cs e));refine⟨h1.nd,fun p hp=>?_,h.lb⟩
 rcases g_.1 hp with rfl|hp
 ·refine⟨BoxO.new w cs e,fun hm=>?_,?_⟩
  ·have:=h.nd.at_.at_.lt _ hm
   simp only at this;omega
  ·have:=h.nd.at_.box.lt
   simp only;omega
 ·exact h1.own p hp
theorem GnI.turn {n1:Nat} (h:GnI w0 w nb L X S Y V now grace) (hn:NdAt w1 X1 S1 Y1 V1 nb 0 n1 grace) (c:Chg (nb::XY X Y) w w1) (f:∀g∈XY X1 Y1,g∈XY X Y∨w.heap.size≤g):GnI w0 w1 nb L X1 S1 Y1 V1 n1 grace:=
 ⟨⟨hn,fun g hg=>(f g hg).elim (h.nd.low g) (h_ h.nd.bel.size),h.nd.bel.trans (c.below h.nd.bel.size fun g hg=>(g_.1 hg).elim (fun e=>by rw[e];exact h.lb) (h.nd.low g))⟩,
  fun p hp=>by
   obtain⟨b1,b2,b3⟩:=h.own p hp;refine⟨b1.chg c fun hm=>(g_.1 hm).elim b3 b2,fun hm=>(f _ hm).elim b2 fun q=>?_,b3⟩;have:=b1.lt;omega,h.lb⟩
theorem GnI.cx {g:Nat} {e:TypeId} {a b c d f:Value} (h:GnI w0 w nb L X S Y V now grace) (hp:(g,e,[a,b,c,d,f])∈L):w.cell? ⟨g,0,none⟩=some a∧w.cell? ⟨g,1,none⟩=some b∧w.cell? ⟨g,2,none⟩=some c∧w.cell? ⟨g,3,none⟩=some d∧w.cell? ⟨g,4,none⟩=some f:=by
 have hb:=(h.own _ hp).1;exact⟨hb.cell 0,hb.cell 1,hb.cell 2,hb.cell 3,hb.cell 4⟩
theorem GnI.row {g:Nat} {a:It} (h:GnI w0 w nb L X S Y V now grace) (hp:(g,36,a.cells)∈L):Row w.heap.size w (some ⟨g,0,none⟩) 1 5 (itc [a])∧g∉XY X Y:=by
 have hb:=h.own _ hp;refine⟨⟨by simp[itc,It.cells],fun j hj=>⟨_,rfl,hb.1.lt,?_⟩⟩,hb.2.1⟩;have e:((⟨g,0,none⟩:Addr).add j)=⟨g,j,none⟩:=xx2 g j;rw[e,hb.1.cell j];have:itc [a]=a.cells:=by simp[itc]
 simp only[this];rw[j_ (by rw[←this];exact hj)]
structure GnV (V:Sv):Prop where
 nrm:Nrm V
 fl:V.M.v.floor≤200000
 ce:V.M.v.cert≤200000
 aa:V.M.v.at_=0
 le:V.M.v.lease=0
def vj2 (w0:World) (nb:Nat) (L:List (Nat×TypeId×List Value)) (S1:Sd) (V1:Sv) (now grace:Nat) (e:Ending) (w':World):Prop:=∃A n c X Y,e=.returned (.slice A n c)∧GnI w0 w' nb L X S1 Y V1 now grace
theorem GnI.post {frm:Int} {id:Nat} {an:Option (Int×Nat×List It)} {e:Ending} (h:GnI w0 w nb L X S Y V now grace) (hh:yw X Y w S1 V1 nb 0 now grace frm id an e w1):vj2 w0 nb L S1 V1 now grace e w1:=by
 obtain⟨X1,Y1,_,_,h1,c1,f1,_,ha⟩:=hh;have h2:=h.turn h1 (c1.mono fun g hg=>.inl (f_ _ hg)) f1
 cases an with
 |none=>exact⟨_,_,_,X1,Y1,ha,h2⟩
 |some q=>
  obtain⟨k1,no1,L1⟩:=q;obtain⟨g,B,n1,c2,he,_⟩:=ha;exact⟨_,_,_,X1,Y1,he,h2⟩
theorem jj3 (h:GnI w0 w nb L X S Y V now grace) (hV:GnV V) (idn:Nat) (idi:Int) (hid:idi=(idn:Int)) (hi:idn≤100) {a:It} (ha:a.ok=true) (hf:a.fit) {an:Option (Int×Nat×List It)} (hm:St.put S V [a]=(S1,V1,an)) (A:Option Addr) (hr:Row w.heap.size w A 1 5 (itc [a])) (hA:∀b,A=some b→b.block∉XY X Y):
  Calls Tryz.prog 15 #[.pointer (some ⟨nb,0,none⟩),.agg #[.int .i64 1,.int .i64 1,.int .i64 0,.int .u64 idi,.int .u64 0,.slice A 1 1]] w (vj2 w0 nb L S1 V1 now grace):=by
 subst hid;have hh:=qz4 h.nd.at_ hV.nrm 1 idn 0 A 1 1 [a] ⟨by simp,by simp,by simp,by simp only;omega,by simp,by simp,by simp[ha],.inr (.inl rfl)⟩ hr l_ (by omega) hA (fun x hx=>by rw[c_.1 hx];exact hf);rw[hm]at hh;exact hh.mono fun e w' q=>h.post q
theorem yq2 (h:GnI w0 w nb L X S Y V now grace) (hV:GnV V) (F:Nat) (Fi:Int) (hid:Fi=(F:Int)) (hF:F≤200000) {a:It} (ha:a.ok=true) (hf:a.fit) {an:Bool} (hm:St.fill S V F [a]=(S1,V1,an)) (A:Option Addr) (hr:Row w.heap.size w A 1 5 (itc [a])):
  Calls Tryz.prog 15 #[.pointer (some ⟨nb,0,none⟩),.agg #[.int .i64 8,.int .i64 1,.int .i64 0,.int .u64 3,.int .u64 Fi,.slice A 1 1]] w (vj2 w0 nb L S1 V1 now grace):=by
 subst hid;have hh:=yy4 h.nd.at_ hV.nrm 1 3 F A 1 1 [a] (by simp[Mq.ok,isNd,zz2,ha];omega) (by omega) hr (fun x hx=>by rw[c_.1 hx];exact hf);rw[hm]at hh;exact hh.mono fun e w' q=>h.post q
theorem xx4 (h:GnI w0 w nb L X S Y V now grace) (hV:GnV V) (F:Nat) (Fi:Int) (hid:Fi=(F:Int)) (hF:1≤F∧F≤200000) {an:Option (Int×Nat×List It)} (hm:St.seal S V F=(S1,V1,an)):
  Calls Tryz.prog 15 #[.pointer (some ⟨nb,0,none⟩),.agg #[.int .i64 6,.int .i64 1,.int .i64 0,.int .u64 3,.int .u64 Fi,.slice none 0 0]] w (vj2 w0 nb L S1 V1 now grace):=by
 subst hid;have hh:=zq3 h.nd.at_ hV.nrm 1 3 F none 0 0 [] ⟨by simp,by simp,by simp,by simp,by simp only;omega,by simp,rfl,.inl rfl⟩ Row.nil_ (by omega) ⟨by have:=hV.ce;omega,by rw[hV.aa];exact t_ _,by rw[hV.le];exact t_ _⟩;rw[hm]at hh;exact hh.mono fun e w' q=>h.post q
theorem dq5 (h:GnI w0 w nb L X S Y V 0 grace) (hV:GnV V) (F:Nat) (Fi:Int) (hid:Fi=(F:Int)) (hF:F≤200000) (hm:St.even S V F 0=(S1,V1)):
  Calls Tryz.prog 15 #[.pointer (some ⟨nb,0,none⟩),.agg #[.int .i64 10,.int .i64 1,.int .i64 0,.int .u64 3,.int .u64 Fi,.slice none 0 0]] w (vj2 w0 nb L S1 V1 0 grace):=by
 subst hid;have hh:=xy4 h.nd.at_ hV.nrm 1 3 F none 0 0 [] (by simp[Mq.ok,isNd,zz2];omega) (by omega) Row.nil_ ⟨by omega,fun _=>hV.aa⟩ ⟨by have:=hV.fl;omega,by rw[hV.le];exact t_ _⟩;rw[hm]at hh;exact hh.mono fun e w' q=>h.post q
theorem GnI.one (h:GnI w0 w nb L X S Y V now grace) (a:It) (cs:Array Value) (hcs:cs.toList=itc [a]):GnI w0 (w.alloc (.cells cs 36)) nb L X S Y V now grace∧Row (w.alloc (.cells cs 36)).heap.size (w.alloc (.cells cs 36)) (some ⟨w.heap.size,0,none⟩) 1 5 (itc [a])∧∀b,some (⟨w.heap.size,0,none⟩:Addr)=some b→b.block∉XY X Y:=by
 have hr:=Row.new w cs 36 (n:=1) (size:=5) (by
  have:=congrArg List.length hcs;simpa [itc,It.cells] using this)
 rw[hcs]at hr;refine⟨h.below (b_ w (.cells cs 36)),hr.up (by simp),fun b hb hm=>?_⟩;injection hb with hb;subst hb;have:=h.nd.at_.at_.lt _ hm;simp only at this;omega
theorem GnI.old {g:Nat} {a:It} (h:GnI w0 w nb L X S Y V now grace) (hp:(g,36,a.cells)∈L):Row w.heap.size w (some ⟨g,0,none⟩) 1 5 (itc [a])∧∀b,some (⟨g,0,none⟩:Addr)=some b→b.block∉XY X Y:=by
 obtain⟨h1,h2⟩:=h.row hp;refine⟨h1,fun b hb=>?_⟩;injection hb with hb;subst hb;exact h2
theorem mq3 (h:GnI w0 w nb L X S Y V now grace) (n:Nat) (hn:n=V.st.length) (h1:n≤1500):
  Calls Tryz.prog 18 #[.pointer (some ⟨nb,0,none⟩)] w fun e w'=>∃A c,e=.returned (.slice A n c)∧Row w'.heap.size w' A n 5 (itc V.st)∧Below w.heap.size w w':=by
 have hal:Y.A.n=n:=by rw[hn];exact h.nd.at_.at_.alen
 refine(gj2 h.nd.at_ (by omega)).mono ?_;rintro e w' ⟨A,c,rfl,ho,hb⟩;rw[hal]at ho ⊢;exact⟨A,c,rfl,Row.own ho,hb⟩
theorem zv2 (h:GnI w0 w nb L X S Y V now grace) (hV:GnV V) (hng:NG≤w0.heap.size) (hnow:now≤1000) (hm:St.tick S V (now+1) grace=(S1,V1,0))
  (hpu:(St.oz V).collect (now+1) grace≠0→(fz1 V.st ((St.oz V).collect (now+1) grace)).length≠V.st.length→∀w' Y' X',SvAt w' X' S Y' V→Calls Tryz.prog 69 #[.pointer (some ⟨Y'.s,0,none⟩),.int .u64 ((((St.oz V).collect (now+1) grace):Nat):Int)] w' (cv1 X' Y' w' (St.pk1 S V ((St.oz V).collect (now+1) grace)))):
  Calls Tryz.prog 36 #[.pointer (some ⟨nb,0,none⟩)] w fun e w'=>e=.returned (.int .i64 0)∧∃X1 Y1,GnI w0 w' nb L X1 S1 Y1 V1 (now+1) grace:=by
 have ht:=wz3 h.nd.at_ hV.nrm.tabs (h_ hng h.lb) (by omega) (by have:=hV.nrm.len;omega) hV.nrm.files (now+1) (by omega) hpu;rw[hm]at ht;refine ht.mono ?_;rintro e w' ⟨rfl,X1,Y1,_,_,h1,c1,f1⟩;exact⟨rfl,X1,Y1,h.turn h1 c1 f1⟩
def GnAt (w0 w:World) (nb:Nat) (L:List (Nat×TypeId×List Value)) (S5 S6:Sd) (V5:Sv) (gr k:Nat):Prop:=
 ∃X S Y V,GnI w0 w nb L X S Y V k gr∧(k < max gr 1∧S=S5∧V=V5∨max gr 1≤k∧S=S6∧V=Gn.Vp V5)
theorem GnAt.below {S5 S6:Sd} {V5:Sv} {gr k:Nat} (h:GnAt w0 w nb L S5 S6 V5 gr k) (hb:Below w.heap.size w w1):GnAt w0 w1 nb L S5 S6 V5 gr k:=by
 obtain⟨X,S,Y,V,h1,h2⟩:=h;exact⟨X,S,Y,V,h1.below hb,h2⟩
structure GnK (S5 S6:Sd) (V5:Sv) (u v:Nat):Prop where
 g:Gn.G S5 V5 108 4124 [Gn.t v,Gn.x u] [Gn.t v] 2
 v5:V5.M.v={ Nd.v0.M.v with floor:=v+5,cert:=v+5 }
 pu:St.pk1 S5 V5 (v+5)=(S6,Gn.Vp V5,0)
 ld:S5.load≤1000
 hu:1≤u∧u≤v
 hv:v≤90000
theorem GnK.a {S5 S6:Sd} {V5:Sv} {u v:Nat} (h:GnK S5 S6 V5 u v):GnV V5:=by
 have hv:=h.hv;exact⟨h.g.ns.nrm (by omega) (by omega) (by rw[h.g.st];simp),by rw[h.v5];show v+5≤_;omega,by rw[h.v5];show v+5≤_;omega,by rw[h.v5];rfl,by rw[h.v5];rfl⟩
theorem GnK.b {S5 S6:Sd} {V5:Sv} {u v:Nat} (h:GnK S5 S6 V5 u v):GnV (Gn.Vp V5):=by
 have ha:=h.a;exact⟨Gn.ek5 h.g,ha.fl,ha.ce,ha.aa,ha.le⟩
theorem zw3 {S5 S6:Sd} {V5:Sv} {u v gr k:Nat} (hk:GnK S5 S6 V5 u v) (h:GnAt w0 w nb L S5 S6 V5 gr k) (n:Nat) (hn:n=if k < max gr 1 then 1 else 0):
  Calls Tryz.prog 18 #[.pointer (some ⟨nb,0,none⟩)] w fun e w'=>∃A c,e=.returned (.slice A n c)∧Below w.heap.size w w'∧GnAt w0 w' nb L S5 S6 V5 gr k:=by
 have h0:=h;obtain⟨X,S,Y,V,h1,h2⟩:=h;have hl:n=V.st.length:=by
  rcases h2 with ⟨q,_,rfl⟩|⟨q,_,rfl⟩
  ·rw[hn,if_pos q,hk.g.st];rfl
  ·rw[hn,if_neg (by omega)];rfl
 refine(mq3 h1 n hl (by rw[hn];split<;>omega)).mono ?_;rintro e w' ⟨A,c,rfl,_,hb⟩;exact⟨A,c,rfl,hb,h0.below hb⟩
theorem lk3 {S5 S6:Sd} {V5:Sv} {u v gr k:Nat} (hk:GnK S5 S6 V5 u v) (h:GnAt w0 w nb L S5 S6 V5 gr k) (hng:NG≤w0.heap.size) (hk1:k≤900) (hgr:gr≤15):
  Calls Tryz.prog 36 #[.pointer (some ⟨nb,0,none⟩)] w fun e w'=>e=.returned (.int .i64 0)∧GnAt w0 w' nb L S5 S6 V5 gr (k+1):=by
 have hv:=hk.hv;have e5:St.oz V5=⟨v+5,v+5,0,0⟩:=by unfold St.oz;rw[hk.v5];rfl
 have e6:St.oz (Gn.Vp V5)=⟨v+5,v+5,0,0⟩:=e5;obtain⟨X,S,Y,V,h1,h2⟩:=h
 rcases h2 with ⟨q,rfl,rfl⟩|⟨q,rfl,rfl⟩
 ·have hc:(St.oz V).collect (k+1) gr=if k+1 < gr then 0 else v+5:=by
   rw[e5];show (if 281474976710656 < 0∨281474976710656 - 0 < gr∨k+1 < 0+gr then 0 else v+5)=_
   by_cases z:k+1 < gr
   ·rw[if_pos (.inr (.inr (by omega))),if_pos z]
   ·rw[if_neg (by omega),if_neg z]
  by_cases z:k+1 < gr
  ·rw[if_pos z]at hc
   refine(zv2 (S1:=S) (V1:=V) h1 hk.a hng (by omega) (by unfold St.tick;rw[hc,if_pos (.inl rfl)]) (fun w _=>absurd hc w)).mono ?_;rintro e w' ⟨rfl,X1,Y1,h3⟩;exact⟨rfl,X1,S,Y1,V,h3,.inl ⟨by omega,rfl,rfl⟩⟩
  ·rw[if_neg z]at hc
   have hpg:fz1 V.st (v+5)=[]:=by rw[hk.g.st];exact Gn.pg (by omega)
   refine(zv2 (S1:=S6) (V1:=Gn.Vp V) h1 hk.a hng (by omega) (by
    unfold St.tick;rw[hc,if_neg (by rw[hpg,hk.g.st];simp),hk.pu]) (fun _ _ w' Y' X' h'=>?_)).mono ?_
   ·rw[hc]
    obtain⟨S1,hf,hF⟩:=Gn.flush hk.g hk.ld;have hg:=hk.g;have hcn:=hg.ns.count;have hlv:St.live V=[Gn.t v]:=by
     unfold St.live;rw[hg.mem,hg.st];exact Gn.fq5 u v
    refine yv2 h' (v+5) (by rw[hlv];exact Gn.good1 (by have:=hk.hu;omega)) (fun x hx=>?_) (by rw[hg.mem];simp) (by rw[hg.st];simp) hk.a.nrm.files (by rw[hg.log];omega) (by omega) (by have:=hk.a.nrm.name;omega) (by have:=hk.ld;omega) (fun _=>?_)
    ·rw[hg.mem]at hx
     rcases g_.1 hx with rfl|hx
     ·exact⟨show (-9223372036854775808:Int)≤0 by decide,show (0:Int) < _ by decide⟩
     ·rw[c_.1 hx]
      exact⟨show (-9223372036854775808:Int)≤1 by decide,show (1:Int) < _ by decide⟩
    ·rw[hf]
     exact⟨Gn.mok hg,h_ hF.load (by omega)⟩
   ·rintro e w' ⟨rfl,X1,Y1,h3⟩
    exact⟨rfl,X1,S6,Y1,Gn.Vp V,h3,.inr ⟨by omega,rfl,rfl⟩⟩
 ·have hpg:(fz1 (Gn.Vp V5).st ((St.oz (Gn.Vp V5)).collect (k+1) gr)).length=(Gn.Vp V5).st.length:=rfl
  refine(zv2 (S1:=S) (V1:=Gn.Vp V5) h1 hk.b hng (by omega) (by unfold St.tick;rw[if_pos (.inr hpg)]) (fun _ w=>absurd hpg w)).mono ?_;rintro e w' ⟨rfl,X1,Y1,h3⟩;exact⟨rfl,X1,S,Y1,Gn.Vp V5,h3,.inr ⟨by omega,rfl,rfl⟩⟩
theorem yz3 {S5 S6:Sd} {V5:Sv} {u v:Nat} {a:It} (hk:GnK S5 S6 V5 u v) (ha:a.v≤v):St.put S6 (Gn.Vp V5) [a]=(S6,Gn.Vp V5,some (3,v+5,[])):=by
 have e:(Gn.Vp V5).M.v.floor=v+5:=by show V5.M.v.floor=_;rw[hk.v5]
 unfold St.put;rw[e,if_pos (by simp;omega)]
theorem gq3 {S5 S6:Sd} {V5:Sv} {u v f:Nat} {a:It} (hk:GnK S5 S6 V5 u v):St.fill S6 (Gn.Vp V5) f [a]=(S6,Gn.Vp V5,decide (f=v+5)):=by
 have e1:(St.oz (Gn.Vp V5)).floor=v+5:=by show V5.M.v.floor=_;rw[hk.v5]
 have e2:(St.oz (Gn.Vp V5)).cert=v+5:=by show V5.M.v.cert=_;rw[hk.v5]
 have e3:(Gn.Vp V5).M.v.cert=v+5:=by show V5.M.v.cert=_;rw[hk.v5]
 unfold St.fill Mt.fills;rw[e1,e2,e3,if_neg (by simp;omega)]
end
end Go.Proofs.YthjdpplgfdihoaaGreatDoor
