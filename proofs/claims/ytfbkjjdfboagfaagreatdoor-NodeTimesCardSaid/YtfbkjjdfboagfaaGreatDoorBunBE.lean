/- Some of the texts. No conditions. -/
import Derived.Test.YtfbkjjdfboagfaaGreatDoorBunBC
import Derived.Test.YtfbkjjdfboagfaaGreatDoorBunBD

set_option linter.unusedSimpArgs false
set_option linter.unusedVariables false
set_option maxRecDepth 100000
set_option maxHeartbeats 16000000
namespace Go.Proofs.YtfbkjjdfboagfaaGreatDoor
open Go.Proofs.Tryz Go Go.RowKit Go.Lib Go.Shelf
namespace Gn
structure G (S:Sd) (V:Sv) (c d:Nat) (mem st:List It) (ct:Nat):Prop where
 ns:Nd.NS 1048576 S V c d
 mem:V.mem=mem
 st:V.st=st
 ct:V.ct=ct
 log:V.M.v.log=1
theorem az4 {S S':Sd} {V o:Sv} {l:List It} (h:St.apply S V l=(S',o,0)):o.mem=l.foldl wput V.mem/\o.ct=V.ct+1:=by
 unfold St.apply at h;simp only at h;split at h
 ·simp at h
 ·split at h
  ·simp at h
  ·split at h
   ·simp at h
   ·split at h
    ·simp at h
    ·split at h
     ·rename_i h2
      injection h with _ h;injection h with _ h;exact absurd h h2
     ·injection h with _ h
      injection h with h _;subst h;exact⟨rfl,rfl⟩
variable {S:Sd} {V:Sv} {c d ct:Nat} {mem st:List It}
theorem jx2 (S:Sd) (V:Sv) (m:Mt):(St.setMeta S V m).2.1.mem=V.mem/\(St.setMeta S V m).2.1.ct=V.ct:=by
 unfold St.setMeta St.saved;split<;>exact⟨rfl,rfl⟩
theorem ij1 {l:List (List UInt8)} {k:List UInt8} {m:Int} (h1:∀s∈l,(Mn.number s k).getD 0<=m) (C:0<=m) (h2:m=0\/∃s∈l,(Mn.number s k).getD 0=m):Mn.greatest l k=m:=by
 have key:∀(l:List (List UInt8)) (a:Int),a<=m->(∀s∈l,(Mn.number s k).getD 0<=m)->(a=m\/∃s∈l,(Mn.number s k).getD 0=m)->l.foldl (fun m s=>max m ((Mn.number s k).getD 0)) a=m:=by
  intro l
  induction l with
  |nil=>
   intro a E _ h
   rcases h with h|⟨s,o,_⟩
   ·exact h
   ·cases o
  |cons b l H=>
   intro a E z h;have I:=z b p_;refine H _ (by show max a _<=m;omega) (fun s o=>z s (f_ _ o)) ?_
   rcases h with h|⟨s,o,h⟩
   ·exact .inl (by show max a _=m;omega)
   ·rcases h_.1 o with rfl|o
    ·exact .inl (by show max a _=m;omega)
    ·exact .inr ⟨s,o,h⟩
 exact key l 0 C h1 (h2.imp Eq.symm id)
def tab2:List UInt8:=Mn.name Mn.kTab 2
def log3:List UInt8:=Mn.name Mn.kLog 3
variable {u v:Nat}
end Gn
namespace Tm
open Gn (G tab2 ij1 jx2 az4)
def t:It:=⟨2,1,0,9,0⟩
theorem t_ok:t.ok=true:=by decide
theorem tx5:t.fit:=⟨show (-9223372036854775808:Int)<=0 by decide,show (0:Int) < 9223372036854775808 by decide⟩
theorem j1:joins [] [t]=[t]:=by decide
theorem pg:rx1 [t] 20=[]:=by decide
theorem dy6:Mg.rows [[t]]=[t]:=by
 simp[Mg.rows,Mg.tot,Mg.run,Mg.sel,Mg.hd,Mg.put]
theorem good1:Tb.good [t]=true:=by
 unfold Tb.good;simp[t_ok,yj]
theorem fj6:Tb.rows [t]=[[t]]:=by simp[Tb.rows,Tb.cut]
variable {S S':Sd} {V V':Sv} {c d ct:Nat} {mem st:List It} {bs:List (List It)} {ts:List Ed}
theorem put2 (h:G S V c d mem st ct) (J:Nd.NO S V bs ts) (I:c+2000<=70000) {a:It} {o:List It} (O:a.ok=true) (hj:joins st [a]=o) (Q:o≠st) (U:o.length<=1500) (hf:V.M.v.floor < a.v) (C:a.fit):
  ∃S' V',St.put S V [a]=(S',V',some (2,0,[]))/\G S' V' (c+54) d (wput mem a) o (ct+1)/\V'.M=V.M/\Nd.NO S' V' (bs++[[a]]) ts:=by
 have z:joins V.st [a]=o:=by rw[h.st];exact hj
 obtain⟨S1,V1,h1,h2,h3,h4⟩:=h.ns.apply (l:=[a]) o_ I s_ (by simp[O]) s_ (by rw[z];exact U);obtain⟨S2,h5,h6⟩:=h2.sync;obtain⟨m1,m2⟩:=az4 h1;have E:=J.apply h.ns o_ I s_ (fun x hx=>by rw[c_.1 hx];exact C) h1;refine⟨S2,V1,?_,⟨h6.mono s_ l_,by rw[m1,h.mem];rfl,by rw[h3,z],by rw[m2,h.ct],by rw[h4];exact h.log⟩,h4,E.sync h2 h5⟩;have H:St.last S V [a]=(S2,V1,true):=by
  unfold St.last;rw[if_neg (by rw[z,h.st];exact Q),h1];simp only[ne_eq,not_true_eq_false,if_false,h5];rfl
 unfold St.put;rw[if_neg (by simp;exact hf),H,if_pos rfl]
theorem cv6 (h:G S V c d mem st ct) (C:Nd.NO S V bs ts) (hd:d+2012<=70000) {m:Mt} (z:St.ny1 m (St.uj V)):
  ∃S' V',St.setMeta S V m=(S',V',0)/\G S' V' c (d+2012) mem st ct/\V'.M.v={ V.M.v with floor:=m.floor,cert:=m.cert,at_:=m.at_,lease:=m.lease }/\Nd.NO S' V' bs (ts++[⟨[],[],0,m.floor,m.cert,m.at_,m.lease⟩]):=by
 obtain⟨S',V',h1,h2,h3,h4⟩:=h.ns.setm o_ hd z;have o:=jx2 S V m;rw[h1]at o;exact⟨S',V',h1,⟨h2,o.1.trans h.mem,h3.trans h.st,o.2.trans h.ct,by rw[h4];exact h.log⟩,h4,C.setm h.ns o_ hd z h1⟩
theorem same2 (h:G S V c d mem st ct) (o:Nd.NO S V bs ts):∃S',St.last S V []=(S',V,true)/\G S' V c d mem st ct/\Nd.NO S' V bs ts:=by
 obtain⟨S',h1,h2⟩:=h.ns.sync;refine⟨S',?_,⟨h2,h.mem,h.st,h.ct,h.log⟩,o.sync h.ns h1⟩;unfold St.last;rw[if_pos (show joins V.st []=V.st from rfl),h1];rfl
theorem four (I:Sd) (h:Nd.NS 1048576 I Nd.v0 0 100) (Q:Nd.NO I Nd.v0 [] [St.first.v.whole]):
  ∃S1 V1,St.put I Nd.v0 [t]=(S1,V1,some (2,0,[]))/\Nrm V1/\V1.M.v=Nd.v0.M.v/\
   ∃S2 o,St.seal S1 V1 20=(S2,o,some (7,20,[t]))/\Nrm o/\o.M.v={ Nd.v0.M.v with floor:=20 }/\
   ∃J,St.fill S2 o 20 []=(J,o,true)/\
   ∃H z ts,St.even J o 20 7=(H,z)/\Nrm z/\G H z 54 4124 [t] [t] 1/\z.M.v={ Nd.v0.M.v with floor:=20,cert:=20,at_:=7 }/\Nd.NO H z [[t]] ts/\ts.length=3:=by
 have g0:G I Nd.v0 0 100 [] [] 0:=⟨h,rfl,rfl,rfl,rfl⟩;obtain⟨S1,V1,U,g1,q1,o1⟩:=put2 (a:=t) g0 Q o_ t_ok j1 s_ s_ (by show 0 < 9;omega) tx5;rw[show wput [] t=[t] by decide]at g1;have C:V1.M.v=Nd.v0.M.v:=by rw[q1]
 obtain⟨S2,o,p2,g2,q2,o2⟩:=cv6 g1 o1 o_ (m:={ St.uj V1 with floor:=20 }) ⟨⟨by show 20<=_;omega,fun e=>absurd e s_⟩,⟨by show V1.M.v.cert<=_;rw[C];exact A_ _,fun e=>e⟩,⟨by show V1.M.v.at_<=_;rw[C];exact A_ _,fun e=>e⟩,⟨by show V1.M.v.lease<=_;rw[C];exact A_ _,fun e=>e⟩⟩;have E:o.M.v={ Nd.v0.M.v with floor:=20 }:=by rw[q2];simp only[St.uj];rw[C]
 obtain⟨J,p3,g3,o3⟩:=same2 g2 o2;obtain⟨H,z,p4,O,q4,o4⟩:=cv6 g3 o3 o_ (m:={ St.uj o with cert:=20,at_:=7 }) ⟨⟨by show o.M.v.floor<=_;rw[E];show 20<=_;omega,fun e=>e⟩,⟨by show 20<=_;omega,fun e=>absurd e s_⟩,⟨by show 7<=_;omega,fun e=>absurd e s_⟩,⟨by show o.M.v.lease<=_;rw[E];exact A_ _,fun e=>e⟩⟩;refine⟨S1,V1,U,g1.ns.nrm o_ o_ (by rw[g1.st];simp),C,S2,o,?_,g2.ns.nrm o_ o_ (by rw[g2.st];simp),E,J,?_,H,z,_,?_,O.ns.nrm o_ o_ (by rw[O.st];simp),O,by rw[q4];simp only[St.uj];rw[E],o4,rfl⟩
 ·unfold St.seal
  rw[if_neg (by rw[C];decide),if_neg (by rw[C];decide),p2,if_pos rfl,g1.st,show upto [t] 20=[t] by decide]
 ·unfold St.fill
  rw[if_pos (by
   unfold Mt.fills St.uj;rw[E];decide)]
  exact p3
 ·unfold St.even
  rw[if_neg (by
   rw[E];decide),p4]
theorem again (h:G S V 54 4124 [t] [t] 1) (o:Nd.NO S V [[t]] ts):Nd.NS 1048576 (S.ak1 []) V 54 4124/\Nd.NO (S.ak1 []) V [[t]] ts/\G (S.ak1 []) (St.old V.M (Lg.text [[t]]).length [[t]]) 54 4124 [t] [t] 1:=by
 have h1:=h.ns.ak1 o;have h2:=o.ak1 h.ns.calm;exact⟨h1,h2,(h1.reopen h2).1,by show St.bv2 [[t]]=_;decide,by show joins [] _=_;decide,rfl,h.log⟩
def Vf (V:Sv):Sv:={ V with M:={ V.M with count:=V.M.count+1,v:={ V.M.v with log:=3,files:=[(0,2)] } },nm:=Gn.log3,sz:=0,ct:=0,mem:=[],tabs:=[((0,2),[[t]])] }
structure F (S:Sd) (V:Sv):Prop where
 calm:Calm S
 quota:S.quota=1048576
 small:Small S [tab2,Gn.log3,Mw.man 1,Mw.kCur] 100000
 tab:∃x,cont S tab2=some x
 man:∃x,cont S (Mw.man 1)=some x/\x.length<=9000
 load:S.load<=1010
theorem flush (h:G S V 54 4124 [t] [t] 1) (hl:S.load<=1000):∃S1,St.flush S V=(S1,Vf V,0)/\F S1 V:=by
 have n1:tab2≠St.jw:=by decide+kernel
 have n2:tab2≠Mw.man 1:=by decide+kernel
 have n3:tab2≠Mw.kCur:=by decide+kernel
 have n4:Gn.log3≠St.jw:=by decide+kernel
 have n5:Gn.log3≠Mw.man 1:=by decide+kernel
 have n6:Gn.log3≠Mw.kCur:=by decide+kernel
 have n7:Gn.log3≠tab2:=by decide+kernel
 have n8:Mw.man 1≠St.jw:=by decide+kernel
 have d1:Sd.named tab2=true:=by decide+kernel
 have d2:Sd.named Gn.log3=true:=by decide+kernel
 have d3:Sd.named (Mw.man 1)=true:=by decide+kernel
 have d4:Sd.named St.jw=true:=by decide+kernel
 obtain⟨lg,a9,i6⟩:=h.ns.log;obtain⟨mn,g',i7⟩:=h.ns.man;have hq:S.quota=1048576:=by have:=h.ns.quota;omega
 have a':St.live V=[t]:=by
  unfold St.live;rw[h.mem,h.st];decide+kernel
 have h0:=Tb.yq3 (l:=[t]) s_;have a6:St.number S=2:=by
  unfold St.number;rw[ij1 (k:=Mn.kLog) (m:=1) (fun s z=>?_) o_ (.inr ⟨St.jw,h.ns.calm.ez1.2 ⟨_,a9⟩,by decide+kernel⟩),ij1 (k:=Mn.kTab) (m:=0) (fun s z=>?_) o_ (.inl rfl)]
  ·rfl
  all_goals
   obtain⟨y,o⟩:=h.ns.calm.ez1.1 z;have:=h.ns.small.names s y o;simp only[h_,ar_,or_false]at this
   rcases this with rfl|rfl|rfl<;>decide+kernel
 have c9:∀s,s≠St.jw->s≠Mw.man 1->s≠Mw.kCur->cont S s=none:=fun s h1 h2 h3=>by
  cases hc:cont S s with
  |none=>rfl
  |some y=>
   have:=h.ns.small.names s y hc;simp only[h_,ar_,or_false]at this
   rcases this with e|e|e
   ·exact absurd e h1
   ·exact absurd e h2
   ·exact absurd e h3
 obtain⟨l1,l2⟩:=h.ns.calm.qj h.ns.small;simp only[r_,R_]at l1 l2;obtain⟨a1,a2,a3,a4⟩:=h.ns.calm.create d1 (c9 _ n1 n2 n3) o_;have sa:Small (S.create tab2).1 [tab2,St.jw,Mw.man 1,Mw.kCur] 100000:=⟨fun s y o=>by
  rw[a3,upd]at o;split at o
  ·subst_vars;simp
  ·exact f_ _ (h.ns.small.names s y o),fun s y o=>by
  rw[a3,upd]at o;split at o
  ·injection o with o;subst o;simp
  ·exact g_ (h.ns.small.len s y o) o_⟩
 obtain⟨l3,l4⟩:=a2.qj sa;simp only[r_,R_]at l3 l4;obtain⟨b1,b2,b3,b4⟩:=a2.append d1 (x:=[]) (by rw[a3,upd,if_pos rfl]) (Tb.make [t]) (by simp;omega) (by rw[a4,hq];omega);have d5:cont ((S.create tab2).1.append tab2 (Tb.make [t])).1 tab2=some (Tb.make [t]):=by rw[b3,upd,if_pos rfl,D_]
 obtain⟨c1,c2,c3,c4⟩:=b2.sync d1 d5;obtain⟨C,J⟩:=n_ ((((S.create tab2).1.append tab2 (Tb.make [t])).1.sync tab2).1);have d6:St.write S [t]=(C,0):=by
  unfold St.write;rw[a6,if_neg (by decide),if_neg (by rw[show Mn.name Mn.kTab 2=tab2 from rfl,a1];simp)];simp only[show Mn.name Mn.kTab 2=tab2 from rfl,b1];rw[if_neg s_,J];exact cO_ rfl c1
 have b5:cont C=upd (upd (cont S) tab2 (some [])) tab2 (some (Tb.make [t])):=by rw[J,c3,b3,a3,D_]
 have d7:C.quota=1048576:=by rw[J,c4,b4,a4,hq]
 have O:Calm C:=by rw[J];exact c2
 have j6:C.load<=S.load+3:=by
  have:=cq1 S [t];rw[d6]at this;exact this
 have b6:cont C tab2=some (Tb.make [t]):=by rw[b5,upd,if_pos rfl]
 have E:∀s,s≠tab2->cont C s=cont S s:=fun s z=>by rw[b5,upd,if_neg z,upd,if_neg z]
 clear J c1 c2 c3 c4 b1 b2 b3 b4 d5 l3 l4 sa a1 a2 a3 a4 b5;have sc:Small C [tab2,St.jw,Mw.man 1,Mw.kCur] 100000:=⟨fun s y o=>by
  by_cases z:s=tab2
  ·rw[z];simp
  ·rw[E s z]at o
   exact f_ _ (h.ns.small.names s y o),fun s y o=>by
  by_cases z:s=tab2
  ·rw[z,b6]at o
   injection o with o;rw[<-o];exact h0
  ·rw[E s z]at o
   exact g_ (h.ns.small.len s y o) o_⟩
 have Q:St.number C=3:=by
  unfold St.number;rw[ij1 (k:=Mn.kLog) (m:=1) (fun s z=>?_) o_ (.inr ⟨St.jw,O.ez1.2 ⟨lg,by rw[E _ n1.symm];exact a9⟩,by decide+kernel⟩),ij1 (k:=Mn.kTab) (m:=2) (fun s z=>?_) o_ (.inr ⟨tab2,O.ez1.2 ⟨_,b6⟩,by decide+kernel⟩)]
  ·rfl
  all_goals
   obtain⟨y,o⟩:=O.ez1.1 z;have:=sc.names s y o;simp only[h_,ar_,or_false]at this
   rcases this with rfl|rfl|rfl|rfl<;>decide+kernel
 obtain⟨l3,l4⟩:=O.qj sc;simp only[r_,R_]at l3 l4;obtain⟨a1,a2,a3,a4⟩:=O.create d2 (by rw[E _ n7];exact c9 _ n4 n5 n6) o_;obtain⟨b1,b2,b3,b4⟩:=a2.sync d2 (x:=[]) (by rw[a3,upd,if_pos rfl]);have b7:St.fresh C=(((C.create Gn.log3).1.sync Gn.log3).1,0):=by
  unfold St.fresh;rw[Q,if_neg (by decide),if_neg (by rw[show Mn.name Mn.kLog 3=Gn.log3 from rfl,a1];simp)];simp only[show Mn.name Mn.kLog 3=Gn.log3 from rfl];exact cO_ rfl b1
 obtain⟨a0,a7⟩:=n_ (((C.create Gn.log3).1.sync Gn.log3).1);have j7:a0.load<=C.load+3:=by
  have:=sy2 C;rw[b7,<-a7]at this;exact this
 rw[<-a7]at b7 b2 b3 b4;obtain⟨e1,e2,e3,e4⟩:=b2.ak;have h9:=Sd.cz1 a0;obtain⟨Se,d8⟩:=n_ a0.ak.1;rw[<-d8]at e2 e3 e4 h9;have U:∀s,s≠Gn.log3->cont Se s=cont C s:=fun s z=>by rw[e3,b3,a3,upd,if_neg z]
 have d9:cont Se Gn.log3=some []:=by rw[e3,b3,a3,upd,if_pos rfl]
 have se:Small Se [Gn.log3,tab2,St.jw,Mw.man 1,Mw.kCur] 100000:=⟨fun s y o=>by
  by_cases z:s=Gn.log3
  ·rw[z];simp
  ·rw[U s z]at o
   exact f_ _ (sc.names s y o),fun s y o=>by
  by_cases z:s=Gn.log3
  ·rw[z,d9]at o
   injection o with o;rw[<-o];simp
  ·rw[U s z]at o
   exact sc.len s y o⟩
 obtain⟨l5,l6⟩:=e2.qj se;simp only[r_,R_]at l5 l6;have d':cont Se (Mw.man 1)=some mn:=by rw[U _ n5.symm,E _ n2.symm];exact g'
 obtain⟨I,b8⟩:∃I:Ed,I=⟨[],[(0,2)],3,0,0,0,0⟩:=⟨_,rfl⟩;have a8:I.may=true:=by rw[b8];decide
 have k0:=Ed.nx1 a8;obtain⟨f1,f2,f3,f4⟩:=e2.append d3 d' I.rec_ o_ (by rw[e4,b4,a4,d7];omega);obtain⟨g1,g2,g3,g4⟩:=f2.sync d3 (x:=mn++I.rec_) (by rw[f3,upd,if_pos rfl]);have e0:V.M.v.app I=some { V.M.v with log:=3,files:=[(0,2)] }:=by
  have e5:=h.ns.ok;have hf:=h.ns.files;rw[b8];unfold Vw.app dropAll orElse;simp only[hf,D_,if_true];rw[if_pos (by
   simp only[Vw.ok,N_,decide_eq_true_eq]at e5 ⊢;exact⟨⟨⟨⟨by rw[if_neg (by decide)];decide,by decide⟩,e5.1.1.2⟩,by decide⟩,by decide⟩)]
  simp
 have e6:Gw.save Se V.M I=(((Se.append (Mw.man 1) I.rec_).1.sync (Mw.man 1)).1,{ V.M with count:=V.M.count+1,v:={ V.M.v with log:=3,files:=[(0,2)] } },0):=by
  unfold Gw.save;rw[if_neg (by rw[h.ns.br];simp),if_neg (by rw[a8];simp),e0];simp only;unfold Gw.put;rw[h.ns.name,if_neg (by simp[f1]),if_neg (by simp[g1])]
 obtain⟨Sg,e7⟩:=n_ (((Se.append (Mw.man 1) I.rec_).1.sync (Mw.man 1)).1);have k6:Sg.load=Se.load:=by rw[e7,Sd.cw1,Sd.bj1]
 rw[<-e7]at e6 g2 g3 g4;have H:cont Sg=upd (cont Se) (Mw.man 1) (some (mn++I.rec_)):=by rw[g3,f3]
 have e9:cont Sg St.jw=some lg:=by rw[H,upd,if_neg n8.symm,U _ n4.symm,E _ n1.symm];exact a9
 obtain⟨k1,k2,k3,k4⟩:=g2.remove d4 e9;have k9:=Sd.bz1 Sg St.jw;have i0:St.turn a0 V I (St.turned 3 [((0,2),[[t]])])=(Sg,Vf V,0):=by
  unfold St.turn;rw[if_neg (by rw[e1];simp),<-d8];unfold St.saved;rw[e6];simp only[true_or,if_true,St.turned,Vf,h.ns.br,h.ns.only,cg_];rfl
 refine⟨(Sg.remove St.jw).1,?_,k2,by rw[k4,g4,f4,e4,b4,a4,d7],⟨fun s y o=>?_,fun s y o=>?_⟩,⟨Tb.make [t],?_⟩,⟨mn++I.rec_,?_,by rw[e_];omega⟩,o_⟩
 ·unfold St.flush
  rw[if_neg (by rw[h.ns.only];simp),if_neg (by rw[h.ct];simp),if_neg (by rw[h.ns.tabs];simp),a',if_neg s_,d6,if_neg s_,a6,fj6,h.ns.tabs,D_];unfold St.lx3;rw[b7,if_neg s_,Q,<-b8,i0,if_pos rfl,h.log,show Mn.name Mn.kLog 1=St.jw by decide+kernel]
 ·rw[k3,upd]at o
  split at o
  ·cases o
  ·rename_i i1
   have:s∈[Gn.log3,tab2,St.jw,Mw.man 1,Mw.kCur]:=by
    by_cases z:s=Mw.man 1
    ·rw[z];simp
    ·rw[H,upd,if_neg z]at o
     exact se.names s y o
   simp only[h_,ar_,or_false]at this ⊢
   rcases this with e|e|e|e|e
   ·exact .inr (.inl e)
   ·exact .inl e
   ·exact absurd e i1
   ·exact .inr (.inr (.inl e))
   ·exact .inr (.inr (.inr e))
 ·rw[k3,upd]at o
  split at o
  ·cases o
  ·by_cases z:s=Mw.man 1
   ·rw[z,H,upd,if_pos rfl]at o
    injection o with o;rw[<-o,e_];omega
   ·rw[H,upd,if_neg z]at o
    exact se.len s y o
 ·rw[k3,upd,if_neg n1,H,upd,if_neg n2,U _ n7.symm]
  exact b6
 ·rw[k3,upd,if_neg n8,H,upd,if_pos rfl]
theorem pl1 (V:Sv):St.pl (Vf V) 20=[]:=by
 unfold St.pl Vf;simp only[al_,bc_,bD_,List.flatten_nil,aM_];rw[dy6];decide+kernel
theorem mok (h:G S V 54 4124 [t] [t] 1):bk6 (Vf V) 20:=by
 have z:=pl1 V;have E:=h.ns.count;refine⟨by show V.st.length<=_;rw[h.st];simp,by simp[Vf],by show V.M.count+1<=_;omega,by show V.M.name.length<=_;rw[h.ns.name];decide+kernel,by simp[Vf],fun y o=>?_,fun y o=>?_,by simp[Vf,Mg.tot],by rw[z];simp,fun y o=>(by rw[z]at o;cases o),fun r C=>(by rw[z]at C;simp[Tb.cut]at C)⟩
 all_goals
  simp only[Vf,c_]at o;subst o;simp
def Vp (V:Sv):Sv:={ V with M:={ V.M with count:=V.M.count+2,v:={ V.M.v with log:=3,files:=[] } },nm:=Gn.log3,sz:=0,ct:=0,mem:=[],tabs:=[],st:=[] }
theorem aj6 (h:G S V 54 4124 [t] [t] 1) (hl:S.load<=1000):∃S6,St.uv1 S V 20=(S6,Vp V,0):=by
 obtain⟨S1,hf,hF⟩:=flush h hl;have d1:Sd.named tab2=true:=by decide+kernel
 have d3:Sd.named (Mw.man 1)=true:=by decide+kernel
 have n2:tab2≠Mw.man 1:=by decide+kernel
 obtain⟨mn,Q,a7⟩:=hF.man;obtain⟨tx,b0⟩:=hF.tab;obtain⟨e1,U,J,e4⟩:=hF.calm.ak;obtain⟨Se,E⟩:=n_ S1.ak.1;rw[<-E]at U J e4;have se:Small Se [tab2,Gn.log3,Mw.man 1,Mw.kCur] 100000:=⟨by rw[J];exact hF.small.names,by rw[J];exact hF.small.len⟩;obtain⟨l5,l6⟩:=U.qj se;simp only[r_,R_]at l5 l6;obtain⟨o,C⟩:∃o:Ed,o=⟨[2],[],0,0,0,0,0⟩:=⟨_,rfl⟩;have z:o.may=true:=by rw[C];decide
 have b7:=Ed.nx1 z;have hq:=hF.quota;obtain⟨f1,f2,f3,f4⟩:=U.append d3 (x:=mn) (by rw[J];exact Q) o.rec_ o_ o_;obtain⟨g1,g2,g3,g4⟩:=f2.sync d3 (x:=mn++o.rec_) (by rw[f3,upd,if_pos rfl]);have H:(Vf V).M.v.app o=some { V.M.v with log:=3,files:=[] }:=by
  have I:=h.ns.ok;rw[C];unfold Vw.app Vf;rw[show dropAll [2] [((0:Int),(2:Int))]=some [] by decide];unfold orElse;simp only[D_,if_true];rw[if_pos (by
   simp only[Vw.ok,N_,decide_eq_true_eq]at I ⊢;exact⟨⟨⟨⟨by decide,by decide⟩,I.1.1.2⟩,by decide⟩,by decide⟩)]
 obtain⟨O,a1⟩:=n_ (((Se.append (Mw.man 1) o.rec_).1.sync (Mw.man 1)).1);have a2:Gw.save Se (Vf V).M o=(O,{ V.M with count:=V.M.count+2,v:={ V.M.v with log:=3,files:=[] } },0):=by
  unfold Gw.save;rw[if_neg (by rw[show (Vf V).M.broken=V.M.broken from rfl,h.ns.br];simp),if_neg (by rw[z];simp),H];simp only;unfold Gw.put;rw[show (Vf V).M.name=V.M.name from rfl,h.ns.name,if_neg (by simp[f1]),if_neg (by simp[g1]),<-a1];simp[Vf]
 have a4:St.turn S1 (Vf V) o (St.mergeD [] [])=(O,Vp V,0):=by
  unfold St.turn;rw[if_neg (by rw[e1];simp),<-E];unfold St.saved;rw[a2];simp only[true_or,if_true,St.mergeD,Vf,Vp,h.ns.br,h.ns.only,cg_]
 have a5:St.merge S1 (Vf V) [2] 3 [] []=(St.drops [2] O,Vp V,0):=by
  rw[St.wk3 (S1:=S1) (acc:=[]) (by simp[Tb.cut,St.writes])];rw[show (Vf V).tabs.filter (fun t=>!decide (t.1.2∈[(2:Int)]))++[]=[] by simp[Vf],bc_,<-C,a4,if_pos rfl]
 refine⟨St.drops [2] O,?_⟩;unfold St.uv1;rw[hf];simp only;rw[if_neg s_,show (Vf V).st=[t] from h.st,pg,if_neg s_];have hp:=pl1 V;unfold St.pl at hp;rw[hp];exact a5
end Tm
section
variable {w w0 w1 w2:World} {X X1 X2:Dw} {S S1 S2:Sd} {Y Y1 Y2:Yw} {V V1 V2:Sv} {nb now grace:Nat} {ni:Int}
structure GnI (w0 w:World) (nb:Nat) (L:List (Nat×TypeId×List Value)) (X:Dw) (S:Sd) (Y:Yw) (V:Sv) (now grace:Nat):Prop where
 nd:NdW w0 w X S Y V nb 0 now grace
 own:∀p∈L,BoxO w p.2.1 p.1 p.2.2/\p.1∉XY X Y/\p.1≠nb
 lb:(w0:Nat)<=nb
variable {L:List (Nat×TypeId×List Value)}
theorem GnI.below (h:GnI w0 w nb L X S Y V now grace) (o:Below w w w1):GnI w0 w1 nb L X S Y V now grace:=
 ⟨h.nd.below o,fun p z=>⟨(h.own p z).1.below o,(h.own p z).2⟩,h.lb⟩
theorem GnI.add (h:GnI w0 w nb L X S Y V now grace) (cs:Array Value) (e:TypeId):GnI w0 (w.alloc (.cells cs e)) nb (((w:Nat),e,cs.toList)::L) X S Y V now grace:=by
 have h1:=h.below (b_ w (.cells cs e));refine⟨h1.nd,fun p o=>?_,h.lb⟩
 rcases h_.1 o with rfl|o
 ·refine⟨BoxO.new w cs e,fun z=>?_,?_⟩
  ·have:=h.nd.at_.at_.lt _ z
   simp only at this;omega
  ·have:=h.nd.at_.box.lt
   simp only;omega
 ·exact h1.own p o
theorem GnI.turn {C:Nat} (h:GnI w0 w nb L X S Y V now grace) (H:NdAt w1 X1 S1 Y1 V1 nb 0 C grace) (c:Chg (nb::XY X Y) w w1) (f:∀g∈XY X1 Y1,g∈XY X Y\/(w:Nat)<=g):GnI w0 w1 nb L X1 S1 Y1 V1 C grace:=
 ⟨⟨H,fun g o=>(f g o).elim (h.nd.low g) (g_ h.nd.bel.size),h.nd.bel.trans (c.below h.nd.bel.size fun g o=>(h_.1 o).elim (fun e=>by rw[e];exact h.lb) (h.nd.low g))⟩,
  fun p I=>by
   obtain⟨b1,b2,E⟩:=h.own p I;refine⟨b1.chg c fun z=>(h_.1 z).elim E b2,fun z=>(f _ z).elim b2 fun q=>?_,E⟩;have:=b1.lt;omega,h.lb⟩
theorem GnI.one (h:GnI w0 w nb L X S Y V now grace) (a:It) (cs:Array Value) (o:cs.toList=itc [a]):GnI w0 (w.alloc (.cells cs 33)) nb L X S Y V now grace/\Row (w.alloc (.cells cs 33)).heap.size (w.alloc (.cells cs 33)) (some ⟨w,0,none⟩) 1 5 (itc [a])/\∀b,some (⟨w,0,none⟩:Addr)=some b->b.block∉XY X Y:=by
 have C:=Row.new w cs 33 (n:=1) (size:=5) (by
  have:=congrArg List.length o;simpa [itc,It.cells] using this)
 rw[o]at C;refine⟨h.below (b_ w (.cells cs 33)),C.up s_,fun b z E=>?_⟩;injection z with z;subst z;have:=h.nd.at_.at_.lt _ E;simp only at this;omega
theorem dj6 (h:GnI w0 w nb L X S Y V now grace) (n:Nat) (C:n=V.st.length) (h1:n<=1500):
  Calls Tryz.prog 10 #[nb] w fun e w'=>∃A c,e=.returned (.slice A n c)/\Row w' w' A n 5 (itc V.st)/\Below w w w':=by
 have o:Y.A.n=n:=by rw[C];exact h.nd.at_.at_.alen
 refine(nk2 h.nd.at_ o_).mono ?_;rintro e w' ⟨A,c,rfl,z,E⟩;rw[o]at z ⊢;exact⟨A,c,rfl,Row.own z,E⟩
end
section
variable {w w0 w1 w2:World} {X X1 X2:Dw} {S S1 S2:Sd} {Y Y1 Y2:Yw} {V V1 V2:Sv} {nb now grace:Nat} {ni:Int}
variable {d:Nat}
def TmX (w0 w:World) (nb d:Nat) (S:Sd) (V:Sv) (now grace:Nat):Prop:=∃X Y,GnI w0 w nb [] X S Y V now grace/\X.d=d
theorem TmX.below (h:TmX w0 w nb d S V now grace) (o:Below w w w1):TmX w0 w1 nb d S V now grace:=by
 obtain⟨X,Y,h1,h2⟩:=h;exact⟨X,Y,h1.below o,h2⟩
def az3 (w0:World) (nb d:Nat) (S1:Sd) (V1:Sv) (now grace:Nat) (e:Ending) (w':World):Prop:=∃A n c,e=.returned (.slice A n c)/\TmX w0 w' nb d S1 V1 now grace
theorem yv2 {frm:Int} {id:Nat} {o:Option (Int×Nat×List It)} {e:Ending} (h:GnI w0 w nb [] X S Y V now grace) (hd:X.d=d) (E:cv1 X Y w S1 V1 nb 0 now grace frm id o e w1):az3 w0 nb d S1 V1 now grace e w1:=by
 obtain⟨X1,Y1,z,_,h1,c1,f1,_,C⟩:=E;have h2:=h.turn h1 (c1.mono fun g H=>.inl (f_ _ H)) f1
 cases o with
 |none=>exact⟨_,_,_,C,X1,Y1,h2,z.trans hd⟩
 |some q=>
  obtain⟨O,I,Q⟩:=q;obtain⟨g,B,U,c2,J,_⟩:=C;exact⟨_,_,_,J,X1,Y1,h2,z.trans hd⟩
theorem bw6 (h:TmX w0 w nb d S V now grace) (z:Nrm V) {C:Option (Int×Nat×List It)} (E:St.put S V [Tm.t]=(S1,V1,C)):
  Calls prog 7 #[nb,.agg #[.int .i64 1,.int .i64 1,.int .i64 0,.int .u64 1,.int .u64 0,.slice (some (w:Nat)) 1 1]] (w.alloc (.cells #[.int .i64 2,.int .i64 1,.int .u64 0,.int .u64 9,.int .i64 0] 33)) (az3 w0 nb d S1 V1 now grace):=by
 obtain⟨X,Y,h,hd⟩:=h;obtain⟨h1,h2,h3⟩:=h.one Tm.t #[.int .i64 2,.int .i64 1,.int .u64 0,.int .u64 9,.int .i64 0] rfl;have o:=nw5 h1.nd.at_ z 1 1 0 _ 1 1 [Tm.t] ⟨by simp,by simp,by simp,by simp only;omega,by simp,by simp,by simp[Tm.t_ok],.inr (.inl rfl)⟩ h2 l_ o_ h3 (fun x H=>by rw[c_.1 H];exact Tm.tx5);rw[E]at o;exact o.mono fun e w' q=>yv2 h1 hd q
theorem vx5 (h:TmX w0 w nb d S V now grace) (z:Nrm V) (C:V.M.v=Nd.v0.M.v) {E:Option (Int×Nat×List It)} (H:St.seal S V 20=(S1,V1,E)):
  Calls prog 7 #[nb,.agg #[.int .i64 6,.int .i64 1,.int .i64 0,.int .u64 2,.int .u64 20,.slice none 0 0]] w (az3 w0 nb d S1 V1 now grace):=by
 obtain⟨X,Y,h,hd⟩:=h;have o:=ny4 h.nd.at_ z 1 2 20 none 0 0 [] ⟨by simp,by simp,by simp,by simp,by simp only;omega,by simp,rfl,.inl rfl⟩ Row.nil_ o_ (by rw[C];decide);rw[H]at o;exact o.mono fun e w' q=>yv2 h hd q
theorem tk5 (h:TmX w0 w nb d S V now grace) (z:Nrm V) {C:Bool} (E:St.fill S V 20 []=(S1,V1,C)):
  Calls prog 7 #[nb,.agg #[.int .i64 8,.int .i64 1,.int .i64 0,.int .u64 2,.int .u64 20,.slice none 0 0]] w (az3 w0 nb d S1 V1 now grace):=by
 obtain⟨X,Y,h,hd⟩:=h;have o:=rq5 h.nd.at_ z 1 2 20 none 0 0 [] (by simp[Mq.ok,isNd,ly3]) o_ Row.nil_ (fun x H=>by cases H);rw[E]at o;exact o.mono fun e w' q=>yv2 h hd q
theorem sj5 (h:TmX w0 w nb d S V 7 grace) (C:Nrm V) (E:V.M.v={ Nd.v0.M.v with floor:=20 }) (H:St.even S V 20 7=(S1,V1)):
  Calls prog 7 #[nb,.agg #[.int .i64 10,.int .i64 1,.int .i64 0,.int .u64 2,.int .u64 20,.slice none 0 0]] w (az3 w0 nb d S1 V1 7 grace):=by
 obtain⟨X,Y,h,hd⟩:=h;have o:=wv5 h.nd.at_ C 1 2 20 none 0 0 [] (by simp[Mq.ok,isNd,ly3]) o_ Row.nil_ ⟨o_,fun z=>o_⟩ (by rw[E];decide);rw[H]at o;exact o.mono fun e w' q=>yv2 h hd q
theorem vv4 (h:TmX w0 w nb d S V now grace):Calls prog 8 #[nb] w fun e w'=>e=.returned (.int .u64 now)/\w'=w:=by
 obtain⟨X,Y,h,hd⟩:=h;exact ux3 h.nd.at_
theorem mk4 (h:TmX w0 w nb d S V now grace) (n:Nat) (o:n=V.st.length) (h1:n<=1500):Calls prog 10 #[nb] w fun e w'=>∃A c,e=.returned (.slice A n c)/\TmX w0 w' nb d S V now grace:=by
 have z:=h;obtain⟨X,Y,h,hd⟩:=h;refine(dj6 h n o h1).mono ?_;rintro e w' ⟨A,c,rfl,_,C⟩;exact⟨A,c,rfl,z.below C⟩
theorem tm_m {V:Sv} (h:V.M.v={ Nd.v0.M.v with floor:=20,cert:=20,at_:=7 }):St.uj V=⟨20,20,7,0⟩:=by unfold St.uj;rw[h];rfl
theorem pq4 {V:Sv} (h:V.M.v={ Nd.v0.M.v with floor:=20,cert:=20,at_:=7 }) {n g:Nat} (o:g<=1000):(St.uj V).collect n g=if n < 7+g then 0 else 20:=by
 rw[tm_m h];show (if 281474976710656 < 7\/281474976710656 - 7 < g\/n < 7+g then 0 else 20)=_
 by_cases z:n < 7+g
 ·rw[if_pos (.inr (.inr z)),if_pos z]
 ·rw[if_neg o_,if_neg z]
theorem uw5 (h:TmX w0 w nb d S V now grace) (z:Nrm V) (C:V.M.v={ Nd.v0.M.v with floor:=20,cert:=20,at_:=7 }):Calls prog 9 #[nb] w fun e w'=>e=.returned (.agg #[.int .u64 20,.int .u64 20,.int .u64 7,.int .u64 0])/\TmX w0 w' nb d S V now grace:=by
 have h1:=h;obtain⟨X,Y,h,hd⟩:=h;have o:=zq4 h.nd.at_ (by have:=z.files;omega);rw[tm_m C]at o;refine o.mono ?_;rintro e w' ⟨rfl,E⟩;exact⟨rfl,h1.below E⟩
theorem tq3 (o:NG<=(w0:Nat)) (h:TmX w0 w nb d S V now grace) (C:Nrm V) (E:now<=1000) (H:(St.uj V).collect (now+1) grace=0):
  Calls prog 6 #[nb] w fun e w'=>e=.returned (.int .i64 0)/\TmX w0 w' nb d S V (now+1) grace:=by
 obtain⟨X,Y,h,hd⟩:=h;have I:=dj3 h.nd.at_ C.tabs (g_ o h.lb) o_ (by have:=C.len;omega) C.files (now+1) o_ (fun z=>absurd H z);rw[show St.tick S V (now+1) grace=(S,V,0) by unfold St.tick;rw[if_pos (.inl H)]]at I;refine I.mono ?_;rintro e w' ⟨rfl,X1,Y1,J,_,h1,c1,f1⟩;exact⟨rfl,X1,Y1,h.turn h1 c1 f1,J.trans hd⟩
theorem wz5 (E:NG<=(w0:Nat)) (h:TmX w0 w nb d S V now grace) (z:Nrm V) (o:Gn.G S V 54 4124 [Tm.t] [Tm.t] 1) (H:S.load<=1000) (I:St.uv1 S V 20=(S1,Tm.Vp V,0)) (O:now<=1000) (Q:(St.uj V).collect (now+1) grace=20):
  Calls prog 6 #[nb] w fun e w'=>e=.returned (.int .i64 0)/\TmX w0 w' nb d S1 (Tm.Vp V) (now+1) grace:=by
 obtain⟨X,Y,h,hd⟩:=h;have U:=dj3 h.nd.at_ z.tabs (g_ E h.lb) o_ (by have:=z.len;omega) z.files (now+1) o_ (fun _ _ w' Y' X' h'=>by
  rw[Q];obtain⟨S1,hf,hF⟩:=Tm.flush o H;have a2:=o.ns.count;have J:St.live V=[Tm.t]:=by
   unfold St.live;rw[o.mem,o.st];decide+kernel
  refine rq3 h' 20 (by rw[J];exact Tm.good1) (fun x C=>?_) (by rw[o.mem];simp) (by rw[o.st];simp) z.files (by rw[o.log];omega) o_ (by have:=z.name;omega) o_ (fun _=>?_)
  ·rw[o.mem]at C
   rw[c_.1 C];exact Tm.tx5
  ·rw[hf]
   exact⟨Tm.mok o,g_ hF.load o_⟩)
 rw[show St.tick S V (now+1) grace=(S1,Tm.Vp V,0) by
  unfold St.tick;rw[Q,if_neg (by rw[o.st,Tm.pg];simp),I]]at U
 refine U.mono ?_;rintro e w' ⟨rfl,X1,Y1,C,_,h1,c1,f1⟩;exact⟨rfl,X1,Y1,h.turn h1 c1 f1,C.trans hd⟩
theorem xz5 (O:Env w) (hd:DK w1 X (Sd.new 1048576)) (o:Below w w w1) (H:∀g∈X.foot,(w:Nat)<=g) (grace:Nat) (I:grace<=1099511627776):
  Calls prog 5 #[.int .i64 0,X.d,[grace]] w1 fun e w'=>∃nb S',e=.returned (.tuple #[.pointer (some ⟨nb,0,none⟩),.int .i64 0])/\TmX w w' nb X.d S' Nd.v0 0 grace/\Nd.NS 1048576 S' Nd.v0 0 100/\Nd.NO S' Nd.v0 [] [St.first.v.whole]:=by
 obtain⟨S',C,J⟩:=Nd.born 1048576 o_ o_;refine(jx3 (bq6 o_ O hd o H) rfl (by rw[show (Sd.new 1048576).list=[] by simp[Sd.list,Sd.new]];intro s Q;cases Q) (by show 0<=_;omega) S' Nd.v0 C (by decide) (by decide) 0 grace o_ I).mono ?_;rintro e w' ⟨nb,X',Y,rfl,U,h3,c,f,a0⟩;have E:∀g∈XY X' Y,(w:Nat)<=g:=fun g hg=>by
  rcases f g hg with z|z
  ·exact H g z
  ·exact g_ o.size z
 exact⟨nb,S',rfl,⟨X',Y,⟨⟨h3,E,o.trans (c.below o.size H)⟩,fun p hp=>(by cases hp),by have:=o.size;omega⟩,U⟩,J,Nd.NO.born o_ o_ C⟩
def TmDk (w0 w:World) (d:Nat) (S:Sd):Prop:=∃X,Dm w X S/\X.d=d/\(∀g∈X.foot,(w0:Nat)<=g)/\Below w0 w0 w
theorem dy5 {bs:List (List It)} {ts:List Ed} (h:TmX w0 w nb d S V now grace) (C:Nd.NO S V bs ts):
  Calls prog 11 #[d,.slice none 0 0] w fun e w'=>e=.returned (.tuple #[])/\TmDk w0 w' d (S.ak1 []):=by
 obtain⟨X,Y,h,rfl⟩:=h;have Q:=C.most;have hd:=h.nd.at_.at_.dm;refine(yv4 X S w none 0 0 [] hd.wf (by have:=C.load;omega) hd.dk Row.nil_ l_ z_ (fun j hj=>absurd hj (bY_ _)) (fun u E=>g_ (C.in_.tb u E) o_) (by
  have h2:S.lasted.length<=S.co.most:=by unfold Co.most;exact aq_ _ _
  omega)).mono ?_
 rintro e w' ⟨rfl,E⟩;obtain⟨J,O,H,c4,f4⟩:=hd.upd (Sd.uk3 hd.wf C.in_ o_ []) E;have o:=h.nd;exact⟨rfl,J,H,O,fun x I=>(f4 x I).elim (fun z=>o.low x (x_ _ z)) (g_ o.bel.size),o.bel.trans (c4.below o.bel.size (fun x I=>o.low x (x_ _ I)))⟩
theorem xy5 {ts:List Ed} (h:TmDk w0 w d S) (E:Nd.NS 1048576 S V 54 4124) (H:Nd.NO S V [[Tm.t]] ts) (hl:ts.length=3) (o:V.M.v.at_=7) (grace:Nat) (I:grace<=1000):
  Calls prog 5 #[.int .i64 0,d,[grace]] w fun e w'=>∃nb,e=.returned (.tuple #[.pointer (some ⟨nb,0,none⟩),.int .i64 0])/\TmX w0 w' nb d S (St.old V.M (Lg.text [[Tm.t]]).length [[Tm.t]]) 7 grace:=by
 obtain⟨X,h1,rfl,C,b4⟩:=h;refine(qz3 h1 E H o_ o_ o_ 0 grace o_ o_).mono ?_;rintro e w' ⟨nb,X',J,rfl,O,h5,c5,f5,z⟩;rw[show (St.old V.M (Lg.text [[Tm.t]]).length [[Tm.t]]).M.v.at_=7 from o]at h5;exact⟨nb,rfl,X',J,⟨⟨h5,fun x Q=>(f5 x Q).elim (C x) (g_ b4.size),b4.trans (c5.below b4.size C)⟩,fun p U=>(by cases U),g_ b4.size z⟩,O⟩
structure TmK (S S6:Sd) (V:Sv):Prop where
 n:Nrm V
 g:Gn.G S V 54 4124 [Tm.t] [Tm.t] 1
 v:V.M.v={ Nd.v0.M.v with floor:=20,cert:=20,at_:=7 }
 ld:S.load<=1000
 pu:St.uv1 S V 20=(S6,Tm.Vp V,0)
def dx3 (w0 w:World) (nb d:Nat) (S S6:Sd) (V:Sv) (G j:Nat):Prop:=j < G/\TmX w0 w nb d S V (7+j) G\/j=G/\TmX w0 w nb d S6 (Tm.Vp V) (7+j) G
theorem fj5 {S6:Sd} {G j:Nat} (C:NG<=(w0:Nat)) (o:TmK S S6 V) (h:dx3 w0 w nb d S S6 V G j) (hj:j < G) (H:G<=20):
  Calls prog 6 #[nb] w fun e w'=>e=.returned (.int .i64 0)/\dx3 w0 w' nb d S S6 V G (j+1):=by
 obtain⟨_,h⟩:=h.resolve_right (fun q=>o_);have E:=pq4 o.v (n:=7+j+1) (g:=G) o_
 by_cases z:j+1 < G
 ·rw[if_pos o_]at E
  exact(tq3 C h o.n o_ E).mono fun e w' q=>⟨q.1,.inl ⟨z,q.2⟩⟩
 ·rw[if_neg o_]at E
  exact(wz5 C h o.n o.g o.ld o.pu o_ E).mono fun e w' q=>⟨q.1,.inr ⟨o_,q.2⟩⟩
theorem ov3 {S6:Sd} {G j:Nat} (C:TmK S S6 V) (h:dx3 w0 w nb d S S6 V G j) (n:Nat) (o:n=if j < G then 1 else 0):
  Calls prog 10 #[nb] w fun e w'=>∃A c,e=.returned (.slice A n c)/\dx3 w0 w' nb d S S6 V G j:=by
 rcases h with ⟨z,h⟩|⟨z,h⟩
 ·rw[if_pos z]at o
  subst o;refine(mk4 h 1 (by rw[C.g.st];rfl) o_).mono ?_;rintro e w' ⟨A,c,rfl,q⟩;exact⟨A,c,rfl,.inl ⟨z,q⟩⟩
 ·rw[if_neg o_]at o
  subst o;refine(mk4 h 0 rfl o_).mono ?_;rintro e w' ⟨A,c,rfl,q⟩;exact⟨A,c,rfl,.inr ⟨z,q⟩⟩
end
end Go.Proofs.YtfbkjjdfboagfaaGreatDoor
