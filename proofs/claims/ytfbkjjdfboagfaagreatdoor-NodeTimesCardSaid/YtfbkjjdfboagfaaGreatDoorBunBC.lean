/- Some of the texts. No conditions. -/
import Derived.Test.YtfbkjjdfboagfaaGreatDoorBunAZ
import Derived.Test.YtfbkjjdfboagfaaGreatDoorBunBB
import Derived.Test.YtfbkjjdfboagfaaGreatDoorBunAU
import Derived.Test.YtfbkjjdfboagfaaGreatDoorBunBA

set_option linter.unusedSimpArgs false
set_option linter.unusedVariables false
set_option maxRecDepth 100000
set_option maxHeartbeats 16000000
namespace Go.Proofs.YtfbkjjdfboagfaaGreatDoor
open Go.Proofs.Tryz Go Go.RowKit Go.Lib Go.Shelf
section
variable {w w0 w1 w2:World} {X X1 X2:Dw} {S S1 S2:Sd} {Y Y1 Y2:Yw} {V V1 V2:Sv} {nb now grace:Nat} {ni:Int}
structure NdW (w0 w:World) (X:Dw) (S:Sd) (Y:Yw) (V:Sv) (nb:Nat) (ni:Int) (now grace:Nat):Prop where
 at_:NdAt w X S Y V nb ni now grace
 low:∀g∈XY X Y,(w0:Nat)<=g
 bel:Below w0 w0 w
theorem NdW.below (h:NdW w0 w X S Y V nb ni now grace) (o:Below w w w1):NdW w0 w1 X S Y V nb ni now grace:=⟨h.at_.below o,h.low,az h.bel o⟩
theorem bq6 {q:Int} (z:q<=1099511627776) (o:Env w) (hd:DK w1 X (Sd.new q)) (C:Below w w w1) (E:∀g∈X.foot,(w:Nat)<=g):Dm w1 X (Sd.new q):=
 ⟨hd,Sd.py5 q z,o.below C,fun g H=>g_ o.base (E g H)⟩
theorem gx4 {q:Int} (h1:500000<=q) (h2:q<=1099511627776) (U:Env w) (hd:DK w1 X (Sd.new q)) (o:Below w w w1) (E:∀g∈X.foot,(w:Nat)<=g) (ni:Int) (grace:Nat) (H:0<=ni/\ni < 7) (I:grace<=1099511627776):
  Calls prog 5 #[ni,X.d,[grace]] w1 fun e w'=>∃nb X' Y S',e=.returned (.tuple #[.pointer (some ⟨nb,0,none⟩),.int .i64 0])/\NdW w w' X' S' Y Nd.v0 nb ni 0 grace/\Nd.NS q S' Nd.v0 0 100/\(w:Nat)<=nb:=by
 obtain⟨S',J,O⟩:=Nd.born q h1 h2;refine(jx3 (bq6 h2 U hd o E) rfl (by rw[show (Sd.new q).list=[] by simp[Sd.list,Sd.new]];intro s hs;cases hs) (by show 0<=_;omega) S' Nd.v0 J (by decide) (by decide) ni grace H I).mono ?_;rintro e w' ⟨nb,X',Y,rfl,e1,h3,c,f,Q⟩;have C:∀g∈XY X' Y,(w:Nat)<=g:=fun g hg=>by
  rcases f g hg with z|z
  ·exact E g z
  ·exact g_ o.size z
 exact⟨nb,X',Y,S',rfl,⟨h3,C,o.trans (c.below o.size E)⟩,O,g_ o.size Q⟩
theorem nx4 {q:Int} (h1:500000<=q) (h2:q<=1099511627776) (C:Env w) (hd:DK w1 X (Sd.new q)) (E:Below w w w1) (H:∀g∈X.foot,(w:Nat)<=g) (ni:Int) (grace:Nat) (o:0<=ni/\ni < 7) (z:grace<=1099511627776):
  Calls prog 5 #[ni,X.d,[grace]] w1 fun e w'=>∃nb X' Y S',e=.returned (.tuple #[.pointer (some ⟨nb,0,none⟩),.int .i64 0])/\NdW w w' X' S' Y Nd.v0 nb ni 0 grace/\Nd.NS q S' Nd.v0 0 100:=
 (gx4 h1 h2 C hd E H ni grace o z).mono fun _ _ ⟨nb,X',Y,S',a,b,c,_⟩=>⟨nb,X',Y,S',a,b,c⟩
theorem yx5 (he:Env w):Calls prog 12 #[] w fun e w'=>e=.returned (.bool true)/\Below w w w':=by
 have I:=H_ (wz3 1048576 w);have HE:=H_ he;clear he;go_enter func12,ntmps12;go_wp2_with fail
 refine m_ I ?_
 rintro e w1 ⟨X0,rfl,J,O,Q⟩;have E:=nx4 o_ o_ HE.out J O Q 2 5 o_ o_;rw[show ((5:Nat):Int)=5 from rfl]at E;have U:=H_ E;clear E J O Q I;go_wp2_with fail
 refine m_ U ?_
 rintro e w2 ⟨nb,X,Y,S,rfl,hw,a1⟩;have o:=mz5 hw.at_ (a1.nrm o_ o_ (by simp[Nd.v0])) 1 3 7 none 0 0 [] ⟨by simp,by simp,by simp,by simp,by simp,by simp,rfl,.inl rfl⟩ Row.nil_ o_;rw[show ((3:Nat):Int)=3 from rfl,show ((7:Nat):Int)=7 from rfl]at o;have z:=H_ o;have H:=H_ hw.bel;have C:=H_ hw.low;clear o hw a1 U;go_wp2_with fail
 refine m_ z ?_
 rintro e w3 ⟨X1,Y1,e1,e2,h3,c3,f3,a7,g,B,n,c,rfl,ha,hg,hr,hB,a8,a9⟩;have a':n=0:=by
  have:=hr.yw;simpa [Nd.v0] using this.symm
 subst a';have a0:=ha.c0;have a2:=ha.c2;have a3:=ha.c3;have a5:=ha.c5;have b0:=H_ (ux3 h3);have b1:=H_ (H.trans (c3.below H.size C));clear z e1 e2 h3 c3 f3 a7 ha hg hr hB a8 a9 H C;go_wp2_with fail
 refine m_ b0 ?_
 rintro e w4 ⟨rfl,rfl⟩;go_wp2;go_ret;exact⟨rfl,b1⟩
end
namespace Nd
variable {q:Int} {S:Sd} {V:Sv} {c d:Nat}
theorem ak4 {v:Vw} (o:v.ok=true) {m:Mt} (C:St.may1 m.floor v.floor/\St.may1 m.cert v.cert/\St.may1 m.at_ v.at_/\St.may1 m.lease v.lease):v.app ⟨[],[],0,m.floor,m.cert,m.at_,m.lease⟩=some { v with floor:=m.floor,cert:=m.cert,at_:=m.at_,lease:=m.lease }:=by
 obtain⟨⟨Q,E⟩,⟨U,H⟩,⟨m3,I⟩,⟨m4,J⟩⟩:=C;have O:({ v with floor:=m.floor,cert:=m.cert,at_:=m.at_,lease:=m.lease }:Vw).ok=true:=by
  simp only[Vw.ok,nj2,N_,decide_eq_true_eq]at o ⊢;refine⟨⟨⟨o.1.1.1,?_⟩,o.1.2⟩,o.2⟩;omega
 have z:∀a b:Nat,(a=0->b=0)->orElse a b=a:=fun a b h=>by
  unfold orElse;split
  ·rename_i e
   rw[h e,e]
  ·rfl
 unfold Vw.app dropAll;simp only[z _ _ E,z _ _ H,z _ _ I,z _ _ J,if_true,aM_];rw[if_pos O]
theorem NS.setm (h:NS q S V c d) (hq:500000<=q) (hd:d+2012<=70000) {m:Mt} (U:St.ny1 m (St.uj V)):
  ∃S' C,St.setMeta S V m=(S',C,0)/\NS q S' C c (d+2012)/\C.st=V.st/\C.M.v={ V.M.v with floor:=m.floor,cert:=m.cert,at_:=m.at_,lease:=m.lease }:=by
 obtain⟨⟨m1,n1⟩,⟨m2,n2⟩,⟨m3,n5⟩,⟨m4,n6⟩⟩:=U;have Q:(⟨[],[],0,m.floor,m.cert,m.at_,m.lease⟩:Ed).may=true:=by
  simp[Ed.may,nj2];omega
 have hr:=Ed.nx1 Q;obtain⟨t,ht,I⟩:=h.log;obtain⟨t2,J,b6⟩:=h.man;obtain⟨ln,lu⟩:=h.calm.qj h.small;have n3:St.jw≠Mw.man 1:=by decide+kernel
 have z:Sd.named (Mw.man 1)=true:=by decide+kernel
 obtain⟨a1,a2,a3,a4⟩:=h.calm.append (s:=Mw.man 1) z J (Ed.rec_ ⟨[],[],0,m.floor,m.cert,m.at_,m.lease⟩) o_ (by have:=h.quota;simp at lu;omega);obtain⟨b1,b2,E,b4⟩:=a2.sync (s:=Mw.man 1) z (x:=t2++Ed.rec_ ⟨[],[],0,m.floor,m.cert,m.at_,m.lease⟩) (by rw[a3,upd,if_pos rfl]);have O:Gw.save S V.M ⟨[],[],0,m.floor,m.cert,m.at_,m.lease⟩=(((S.append (Mw.man 1) (Ed.rec_ ⟨[],[],0,m.floor,m.cert,m.at_,m.lease⟩)).1.sync (Mw.man 1)).1,{ V.M with count:=V.M.count+1,v:={ V.M.v with floor:=m.floor,cert:=m.cert,at_:=m.at_,lease:=m.lease } },0):=by
  unfold Gw.save;rw[if_neg (by rw[h.br];simp),if_neg (by rw[Q];simp),ak4 h.ok ⟨⟨m1,n1⟩,⟨m2,n2⟩,⟨m3,n5⟩,⟨m4,n6⟩⟩];simp only;unfold Gw.put;rw[h.name,if_neg (by simp[a1]),if_neg (by simp[b1])]
 have ho:({ V.M.v with floor:=m.floor,cert:=m.cert,at_:=m.at_,lease:=m.lease }:Vw).ok=true:=by
  have H:=h.ok;simp only[Vw.ok,nj2,N_,decide_eq_true_eq]at H ⊢;refine⟨⟨⟨H.1.1.1,?_⟩,H.1.2⟩,H.2⟩;omega
 refine⟨((S.append (Mw.man 1) (Ed.rec_ ⟨[],[],0,m.floor,m.cert,m.at_,m.lease⟩)).1.sync (Mw.man 1)).1,{ V with M:={ V.M with count:=V.M.count+1,v:={ V.M.v with floor:=m.floor,cert:=m.cert,at_:=m.at_,lease:=m.lease } } },?_,⟨b2,by rw[b4,a4,h.quota],h.only,h.nm,⟨t,?_,I⟩,⟨t2++Ed.rec_ ⟨[],[],0,m.floor,m.cert,m.at_,m.lease⟩,?_,?_⟩,⟨fun s x o=>?_,fun s x o=>?_⟩,h.sz,h.ct,h.mem,h.tabs,h.st,h.name,h.br,ho,h.files,?_⟩,rfl,rfl⟩
 ·unfold St.setMeta St.saved
  rw[if_neg (by rw[h.only];simp)];simp only;rw[O];simp only[h.br,h.only,cg_]
 ·rw[E,a3,upd,if_neg n3]
  exact ht
 ·rw[E,a3,upd,if_pos rfl]
 ·rw[e_]
  omega
 ·rw[E,a3,upd]at o
  split at o
  ·subst_vars;simp
  ·exact h.small.names s x o
 ·rw[E,a3,upd]at o
  split at o
  ·injection o with o
   rw[<-o,e_];omega
  ·exact h.small.len s x o
 ·have:=h.count
  simp only;omega
end Nd
section
open Mw (kCur headB)
namespace Sd
theorem bk5 (n:Nat):kept n (n:Int)=n:=by
 unfold kept;rw[ct_ o_ o_];simp
theorem px3:∀(L:List Nat) (fs:List (List UInt8×Nat)),(∀f∈fs,f.2<=f.1.length)->(cutFiles L fs []).1.map (·.1)=fs.map (·.1)/\(cutFiles L fs []).2=[]
 |[],fs,_=>⟨rfl,rfl⟩
 |i::r,fs,h=>by
  have z:(fs.getD i ([],0)).2<=(fs.getD i ([],0)).1.length:=by
   rw[t_]
   cases e:fs[i]? with
   |none=>exact B_ _
   |some f=>exact h f (u_ e)
  obtain⟨f,o⟩:=n_ (fs.getD i ([],0));rw[<-o]at z;unfold cutFiles;rw[<-o]
  by_cases C:f.1.length - f.2=0
  ·simp only[C,if_true]
   exact px3 r fs h
  ·simp only[C,if_false]
   have hi:i < fs.length:=by
    apply aU_;intro J;rw[t_,b9_ o_]at o;subst o;exact C rfl
   have H:next [] ((f.1.length - f.2:Nat):Int)=(((f.1.length - f.2:Nat):Int),[]):=rfl;rw[H];simp only[bk5];have I:f.1.take (f.2+(f.1.length - f.2))=f.1:=i_ o_;rw[I];have E:fs[i]=f:=by
    rw[o,t_,j_ hi];rfl
   obtain⟨a,b⟩:=px3 r (fs.set i (f.1,f.1.length)) (fun g z=>by
    rcases bM_ z with h1|h1
    ·exact h g h1
    ·rw[h1];exact B_ _)
   refine⟨?_,b⟩;rw[a,ck_];simp only;rw[<-E,<-cy_ (f:=fun p:List UInt8×Nat=>p.1) (h:=by simpa using hi),List.set_getElem_self]
theorem fy3:∀(us:List Tn) (m:Nm),doTurns us m []=us.foldl (fun m u=>u.go m) m
 |[],_=>rfl
 |u::r,m=>by
  have o:next [] 0=(0,[]):=rfl;unfold doTurns;rw[o];simp only[Int.zero_emod,if_true,aX_];exact fy3 r _
end Sd
theorem Calm.ak1 {S:Sd} (h:Calm S) (hi:S.co.In) (o:S.co.most<=60):Calm (S.ak1 [])/\cont (S.ak1 [])=cont S/\(S.ak1 []).quota=S.quota/\(S.ak1 []).co.In/\(S.ak1 []).co.most<=60:=by
 have z:=h.wf;have H:∀f∈S.files,f.2<=f.1.length:=fun f o=>by
  obtain⟨i,hi,rfl⟩:=aI_ o;exact(z.file i hi).1
 obtain⟨a,b⟩:=Sd.px3 S.led S.files H;have C:(S.ak1 []).names=S.names:=by
  show Sd.doTurns S.turns S.lasted (Sd.cutFiles S.led S.files []).2=_
  rw[b,Sd.fy3];exact hi.whole.symm
 have E:=Sd.aq4 z hi [];refine⟨⟨Sd.uk3 z hi o_ [],rfl,rfl,rfl,?_⟩,?_,rfl,E.in_ hi,g_ (E.zw4 hi).1 o⟩
 ·rw[C]
  exact h.inj
 ·funext s
  unfold cont;rw[C];have e:∀(l:List (List UInt8×Nat)) i,(l.getD i ([],0)).1=(l.map (·.1)).getD i []:=fun l i=>by
   rw[t_,t_,b5_]
   cases l[i]?<;>rfl
  congr 1
  funext i
  rw[e,e];show ((Sd.cutFiles S.led S.files []).1.map _).getD i _=_
  rw[a]
theorem Calm.hale {S:Sd} (h:Calm S):S.ct.hale:=⟨h.dead,h.stop,h.fail⟩
theorem Calm.now {S:Sd} (h:Calm S) {s t:List UInt8} (C:cont S s=some t):∃l,S.co.Now s t l:=by
 obtain⟨i,o,z⟩:=Calm.lx2 C;have hi:=h.wf.names _ (Nm.get_mem o);simp only at hi;rw[t_,j_ hi]at z;exact⟨S.files[i].2,i,o,by
  show S.files[i]?=_
  rw[j_ hi];exact congrArg some (cO_ z rfl)⟩
theorem Calm.jk3 {S:Sd} (h:Calm S) (hi:S.co.In) {s x:List UInt8} (o:Sd.named s=true) (z:cont S s=some x) (b:List UInt8) (h1:x.length+b.length<=250000) (h2:S.used+b.length<=S.quota):(S.append s b).1.co.In/\(S.append s b).1.co.most=S.co.most:=by
 obtain⟨l,i,C,E⟩:=h.now z;have:=(Sd.ej3 o C E (b:=b) h1 h2).2.2;rw[h.hale.call,if_pos rfl]at this;rw[this];exact⟨hi.qw _ _,rfl⟩
theorem Calm.sw3 {S:Sd} (h:Calm S) (hi:S.co.In) {s x:List UInt8} (o:Sd.named s=true) (z:cont S s=some x):(S.sync s).1.co.In/\(S.sync s).1.co.most=S.co.most:=by
 obtain⟨l,i,C,E⟩:=h.now z;have:=(Sd.pq3 o C E).2.2;rw[h.hale.call,if_pos rfl]at this;rw[this];exact⟨hi.qw _ _,rfl⟩
theorem Lg.sx3 (ls:List (List It)) (h:∀l∈ls,l≠[]/\l.length<=1000/\∀x∈l,x.ok=true/\x.fit):Lg.replay (Lg.text ls)=(ls,(Lg.text ls).length,0):=by
 have C:∀b∈ls.map It.bytes,b.length<=60000:=fun b C=>by
  obtain⟨l,o,rfl⟩:=aP_.1 C;have:=It.aq1 l;have:=(h l o).2.1;omega
 have E:=Fr.gk3 1 l_ o_ (ls.map It.bytes) C;unfold Lg.replay;rw[show Lg.text ls=Fr.all 1 (ls.map It.bytes) from rfl,E];simp only;rw[if_neg s_];have H:(List.replicate (ls.map It.bytes).length 1).zip (ls.map It.bytes)=ls.map fun l=>((1:Nat),It.bytes l):=by
  rw[aG_];clear E C h
  induction ls with
  |nil=>rfl
  |cons a r I=>rw[r_,cj_,al_,List.zip_cons_cons,I,al_]
 rw[H];have z:∀l∈ls,It.read (It.bytes l)=(l,0):=fun l o=>It.rk1 (fun y J=>(h l o).2.2 y J) (by have:=(h l o).2.1;omega);rw[if_pos (by
  rw[Y_];intro p O;obtain⟨l,o,rfl⟩:=aP_.1 O;simp only[Lg.good1,z l o];simp[(h l o).1])]
 refine cO_ ?_ rfl;show Lg.rows _=ls
 unfold Lg.rows;rw[cm_]
 conv=>rhs;rw[<-List.map_id ls]
 exact List.map_congr_left fun l o=>by simp[z l o]
namespace Nd
variable {q:Int} {S S':Sd} {V V':Sv} {c d:Nat} {bs:List (List It)} {ts:List Ed}
structure NO (S:Sd) (V:Sv) (bs:List (List It)) (ts:List Ed):Prop where
 in_:S.co.In
 most:S.co.most<=60
 log:cont S St.jw=some (Lg.text bs)
 bat:∀l∈bs,l≠[]/\l.length<=1000/\∀x∈l,x.ok=true/\x.fit
 st:V.st=joins [] bs.flatten
 cur:cont S kCur=some (headB 1)
 man:cont S (Mw.man 1)=some (Ed.text ts)
 may:∀e∈ts,e.may=true
 ne:ts≠[]
 run:Vw.none_.run ts=some V.M.v
 count:V.M.count=ts.length
 lg:V.M.v.log=1
 load:S.load<=1000
theorem NO.ak1 (h:NO S V bs ts) (o:Calm S):NO (S.ak1 []) V bs ts:=by
 obtain⟨_,a,_,b,e⟩:=o.ak1 h.in_ h.most;exact⟨b,e,by rw[a];exact h.log,h.bat,h.st,by rw[a];exact h.cur,by rw[a];exact h.man,h.may,h.ne,h.run,h.count,h.lg,g_ (Sd.jj4 o.wf []) h.load⟩
theorem NS.ak1 (h:NS q S V c d) (o:NO S V bs ts):NS q (S.ak1 []) V c d:=by
 obtain⟨a,b,e,_⟩:=h.calm.ak1 o.in_ o.most;exact⟨a,by rw[e,h.quota],h.only,h.nm,by rw[b];exact h.log,by rw[b];exact h.man,⟨by rw[b];exact h.small.names,by rw[b];exact h.small.len⟩,h.sz,h.ct,h.mem,h.tabs,h.st,h.name,h.br,h.ok,h.files,h.count⟩
theorem NO.look (h:NO S V bs ts) (o:NS q S V c d) (I:ts.length<=30):Gw.look S=(some (V.M,false),0):=by
 obtain⟨J,C⟩:=o.calm.now h.cur;obtain⟨O,E⟩:=o.calm.now h.man;have H:Vw.views (Ed.text ts)=some (V.M.v,ts.length,(Ed.text ts).length):=by
  rw[Vw.ik4 ts h.may h.ne,h.run];rfl
 have:=dx5 o.calm.dead (B_ 1) o_ C E H;rw[this];have z:V.M=⟨Mw.man 1,V.M.v,ts.length,false⟩:=by
  have h1:=o.name;have h2:=o.br;have h3:=h.count
  cases z:V.M with
  |mk nm v ct br=>
   rw[z]at h1 h2 h3;simp only at h1 h2 h3;subst h1 h2 h3;rfl
 rw[z];simp;omega
theorem NO.sync (h:NO S V bs ts) (o:NS q S V c d) (e:St.sync S V=(S',V',0)):NO S' V' bs ts:=by
 unfold St.sync at e;rw[if_neg (by rw[o.only];simp),o.nm]at e;obtain⟨z,C,a3,E⟩:=o.calm.sync (s:=St.jw) (by decide+kernel) h.log;rw[if_pos z]at e;obtain⟨b1,b2⟩:=o.calm.sw3 h.in_ (s:=St.jw) (by decide+kernel) h.log;simp only[bb_,and_true]at e;obtain⟨rfl,rfl⟩:=e;exact⟨b1,by rw[b2];exact h.most,by rw[a3];exact h.log,h.bat,h.st,by rw[a3];exact h.cur,by rw[a3];exact h.man,h.may,h.ne,h.run,h.count,h.lg,by rw[Sd.cw1];exact h.load⟩
theorem NS.saved (h:NS q S V c d) (hq:500000<=q) (hd:d+2012<=70000) {m:Mt} (I:St.ny1 m (St.uj V)) (x:Ed) (J:x=⟨[],[],0,m.floor,m.cert,m.at_,m.lease⟩):x.may=true/\V.M.v.app x=some { V.M.v with floor:=m.floor,cert:=m.cert,at_:=m.at_,lease:=m.lease }/\∃t,cont S (Mw.man 1)=some t/\t.length+x.rec_.length<=250000/\S.used+x.rec_.length<=S.quota/\
  Gw.save S V.M x=(((S.append (Mw.man 1) x.rec_).1.sync (Mw.man 1)).1,{ V.M with count:=V.M.count+1,v:={ V.M.v with floor:=m.floor,cert:=m.cert,at_:=m.at_,lease:=m.lease } },0):=by
 have o:V.M.v.app x=some { V.M.v with floor:=m.floor,cert:=m.cert,at_:=m.at_,lease:=m.lease }:=by rw[J];exact ak4 h.ok I
 obtain⟨⟨m1,n1⟩,⟨m2,n2⟩,⟨m3,n5⟩,⟨m4,n6⟩⟩:=I;have H:x.may=true:=by
  rw[J];simp[Ed.may,nj2];omega
 have hr:=Ed.nx1 H;obtain⟨t2,z,O⟩:=h.man;obtain⟨ln,Q⟩:=h.calm.qj h.small;have C:Sd.named (Mw.man 1)=true:=by decide+kernel
 have E:S.used+x.rec_.length<=S.quota:=by have:=h.quota;simp at Q;omega
 obtain⟨U,a2,a3,a4⟩:=h.calm.append (s:=Mw.man 1) C z x.rec_ o_ E;obtain⟨b1,b2,b3,b4⟩:=a2.sync (s:=Mw.man 1) C (x:=t2++x.rec_) (by rw[a3,upd,if_pos rfl]);refine⟨H,o,t2,z,o_,E,?_⟩;unfold Gw.save;rw[if_neg (by rw[h.br];simp),if_neg (by rw[H];simp),o];simp only;unfold Gw.put;rw[h.name,if_neg (by simp[U]),if_neg (by simp[b1])]
theorem NO.setm (h:NO S V bs ts) (E:NS q S V c d) (hq:500000<=q) (hd:d+2012<=70000) {m:Mt} (hm:St.ny1 m (St.uj V)) (e:St.setMeta S V m=(S',V',0)):NO S' V' bs (ts++[⟨[],[],0,m.floor,m.cert,m.at_,m.lease⟩]):=by
 obtain⟨x,H⟩:∃x:Ed,x=⟨[],[],0,m.floor,m.cert,m.at_,m.lease⟩:=⟨_,rfl⟩;obtain⟨he,I,t,J,h1,h2,O⟩:=E.saved hq hd hm x H;have Q:t=Ed.text ts:=by
  have:=h.man;rw[J]at this;exact ah_ this
 subst Q;have o:Sd.named (Mw.man 1)=true:=by decide+kernel
 have n3:St.jw≠Mw.man 1:=by decide+kernel
 have n4:kCur≠Mw.man 1:=by decide+kernel
 obtain⟨a1,U,a3,a4⟩:=E.calm.append (s:=Mw.man 1) o J x.rec_ h1 h2;obtain⟨b1,b2⟩:=E.calm.jk3 h.in_ (s:=Mw.man 1) o J x.rec_ h1 h2;have z:cont (S.append (Mw.man 1) x.rec_).1 (Mw.man 1)=some (Ed.text ts++x.rec_):=by rw[a3,upd,if_pos rfl]
 obtain⟨d1,d2,d3,d4⟩:=U.sync (s:=Mw.man 1) o z;obtain⟨f1,f2⟩:=U.sw3 b1 (s:=Mw.man 1) o z;unfold St.setMeta St.saved at e;rw[if_neg (by rw[E.only];simp),<-H]at e;simp only[O,bb_,and_true]at e;obtain⟨rfl,rfl⟩:=e;rw[<-H];refine⟨f1,by rw[f2,b2];exact h.most,by rw[d3,a3,upd,if_neg n3];exact h.log,h.bat,h.st,by rw[d3,a3,upd,if_neg n4];exact h.cur,by rw[d3,z,Ed.fx2],fun y C=>?_,by simp,?_,?_,h.lg,by rw[Sd.cw1,Sd.bj1];exact h.load⟩
 ·rcases q_.1 C with C|C
  ·exact h.may y C
  ·rw[c_.1 C]
   exact he
 ·rw[Vw.dq5,h.run]
  exact I
 ·show V.M.count+1=_
  rw[h.count];simp
theorem NO.ej6 {S2:Sd} (d2:Calm S2) (C:S2.co.In) (m2:S2.co.most=1) (t2:S2.co.total=0) (a0:500000<=S2.quota) (E:S2.names.get (Mw.man 1)=none) (hc:cont S2 St.jw=some []) (a2:S2.load<=10)
  (e:(if (Gw.rewrite S2 St.first (Mn.name Mn.kMan 1)).2.2≠0 then ((Gw.rewrite S2 St.first (Mn.name Mn.kMan 1)).1,none,(Gw.rewrite S2 St.first (Mn.name Mn.kMan 1)).2.2) else ((Gw.rewrite S2 St.first (Mn.name Mn.kMan 1)).1,some (⟨(Gw.rewrite S2 St.first (Mn.name Mn.kMan 1)).2.1,St.jw,0,0,[],[],[],false⟩:Sv),0))=(S,some v0,0)):NO S v0 [] [St.first.v.whole]:=by
 obtain⟨e1,e2,z,O,Q⟩:=Gw.bx5 (d:=S2) (M:=St.first) (k:=1) d2.hale (by decide) (B_ 1) (by decide) C o_ o_ E;rw[show Mn.name Mn.kMan 1=Mw.man 1 from rfl,e1]at e;simp only[ne_eq,not_true_eq_false,if_false,bb_]at e;obtain⟨e,_⟩:=e;have U:(Gw.rewrite S2 St.first (Mw.man 1)).1=S:=e;rw[U]at e2 z O Q;have o:∀{s t:List UInt8} {l:Nat},S.co.Now s t l->cont S s=some t:=fun {s t l} ⟨i,hg,hf⟩=>by
  unfold cont;have H:S.names.get s=some i:=hg;have I:S.files[i]?=some (t,l):=hf;rw[H,aR_,t_,I];rfl
 obtain⟨l0,n0⟩:=d2.now hc;have J:¬Mw.NR St.jw:=by
  unfold Mw.NR;decide+kernel
 exact⟨z.in_,by have:=z.most;omega,o (z.now _ J _ _ n0),fun l hl=>(by cases hl),rfl,o O.now,by rw[Ed.gx5];exact o Q.now,fun x hx=>by rw[c_.1 hx];exact Vw.pj1 (by decide),by simp,Vw.wq4 (by decide),rfl,rfl,by
  have:=Gw.ew3 d2.wf St.first (Mw.man 1)
  rw[<-U];omega⟩
theorem NO.born (h1:500000<=q) (h2:q<=1099511627776) (e:St.create (Sd.new q)=(S,some v0,0)):NO S v0 [] [St.first.v.whole]:=by
 have I:(Sd.new q).co.In:=⟨bi_,bi_,fun p C=>(by cases C),fun p C=>(by cases C),fun p C=>(by cases C),fun p C=>(by cases C),List.nodup_nil,fun i hi=>(by cases hi),rfl,fun u hu=>(by cases hu)⟩;have E:=Calm.new q h2;have o:Sd.named St.jw=true:=by decide+kernel
 obtain⟨a1,H,a3,a4⟩:=E.create o (by rw[Calm.rq1]) (by show (0:Nat) < 64;omega);have b:=(Sd.iq3 o (d:=Sd.new q) rfl (by show (0:Nat) < 64;omega)).2.2;rw[E.hale.call,if_pos rfl]at b;have J:((Sd.new q).create St.jw).1.co.In:=by rw[b];exact I.create rfl
 have m1:((Sd.new q).create St.jw).1.co.most=1:=by rw[b,Co.jy2];rfl
 have t1:((Sd.new q).create St.jw).1.co.total=0:=by rw[b,Co.zy1];rfl
 have z:cont ((Sd.new q).create St.jw).1 St.jw=some []:=by rw[a3,upd,if_pos rfl]
 obtain⟨d1,d2,d3,d4⟩:=H.sync o z;obtain⟨O,m2⟩:=H.sw3 J o z;have t2:(((Sd.new q).create St.jw).1.sync St.jw).1.co.total=0:=by
  obtain⟨l,i,hg,U⟩:=H.now z;have:=(Sd.pq3 o hg U).2.2;rw[H.hale.call,if_pos rfl]at this;rw[this];have:=Co.tx1 (c:=((Sd.new q).create St.jw).1.co) (f:=([],0)) U;simp only[R_]at this ⊢;omega
 have hl:(Sd.new q).list=[]:=by simp[Sd.list,Sd.new]
 unfold St.create at e;rw[hl]at e;simp only[St.wipe,a1,d1,ne_eq,not_true_eq_false,if_false]at e;have Q:(((Sd.new q).create St.jw).1.sync St.jw).1.names.get (Mw.man 1)=none:=Calm.get_none (by rw[d3,a3,upd,if_neg (by decide+kernel),Calm.rq1]);have b0:((((Sd.new q).create St.jw).1.sync St.jw).1.quota:Int)=q:=by rw[d4,a4];simp[Sd.new];omega
 exact NO.ej6 d2 O (by rw[m2];exact m1) t2 o_ Q (by rw[d3];exact z) (by
  have h1:=Sd.iz1 (Sd.new q) St.jw;have h2:(Sd.new q).load=0:=rfl;rw[Sd.cw1];omega) e
theorem NO.apply (h:NO S V bs ts) (o:NS q S V c d) (hq:500000<=q) (hc:c+2000<=70000) {l:List It} (hl:l.length<=60) (J:∀x∈l,x.fit) (e:St.apply S V l=(S',V',0)):NO S' V' (bs++[l]) ts:=by
 have hb:=Lg.fy2 l;obtain⟨t,C,O⟩:=o.log;have E:t=Lg.text bs:=by
  have:=h.log;rw[C]at this;exact ah_ this
 subst E;obtain⟨ln,H⟩:=o.calm.qj o.small;have Q:Mw.man 1≠St.jw:=by decide+kernel
 have U:kCur≠St.jw:=by decide
 unfold St.apply at e;rw[if_neg (by rw[o.only];simp)]at e
 by_cases h1:l=[]\/l.all It.ok=false
 ·rw[if_pos h1]at e
  simp at e
 rw[if_neg h1,if_neg o_]at e
 by_cases h2:1500 < (joins V.st l).length
 ·rw[if_pos h2]at e
  simp at e
 rw[if_neg h2,o.nm]at e;obtain⟨a1,a2,a3,a4⟩:=o.calm.append (s:=St.jw) (by decide+kernel) C (Lg.batch l) o_ (by have:=o.quota;simp at H;omega);obtain⟨b1,b2⟩:=o.calm.jk3 h.in_ (s:=St.jw) (by decide+kernel) C (Lg.batch l) o_ (by have:=o.quota;simp at H;omega);simp only[a1,ne_eq,not_true_eq_false,if_false,bb_,and_true]at e;obtain⟨rfl,rfl⟩:=e;refine⟨b1,by rw[b2];exact h.most,by rw[a3,upd,if_pos rfl,Lg.fx2],fun x z=>?_,?_,by rw[a3,upd,if_neg U];exact h.cur,by rw[a3,upd,if_neg Q];exact h.man,h.may,h.ne,h.run,h.count,h.lg,by rw[Sd.bj1];exact h.load⟩
 ·rcases q_.1 z with z|z
  ·exact h.bat x z
  ·rw[c_.1 z]
   simp only[not_or,Bool.not_eq_false]at h1;exact⟨h1.1,o_,fun y I=>⟨Y_.1 h1.2 y I,J y I⟩⟩
 ·show joins V.st l=_
  rw[h.st,bm_,kv3];simp
theorem wx2:∀ls:List (List It),ls.length+ls.flatten.length<=(Lg.text ls).length
 |[]=>by simp
 |l::r=>by
  have h:=wx2 r;have h1:∀l:List It,l.length<=(l.flatMap It.one).length:=fun l=>by
   induction l with
   |nil=>simp
   |cons a l o=>simp only[P_,e_,r_,It.one];omega
  have h2:=h1 l;have e:Lg.text (l::r)=Lg.batch l++Lg.text r:=by simp[Lg.text,Fr.all,Lg.batch]
  rw[e,e_,r_,bD_,e_];have h3:(Lg.batch l).length=(It.bytes l).length+12:=Fr.oq 1 _;have h4:(It.bytes l).length=(Pn.put l.length).length+(l.flatMap It.one).length:=by simp[It.bytes]
  omega
theorem NO.own (h:NO S V bs ts) (o:NS q S V c d):∀s∈S.list,St.keeps V.M s=true:=fun s z=>by
 obtain⟨x,C⟩:=o.calm.ez1.1 z;have:=o.small.names s x C;unfold St.keeps;rw[o.name,h.lg];simp only[h_,ar_,or_false]at this
 rcases this with rfl|rfl|rfl
 ·decide+kernel
 ·simp
 ·simp
theorem ay4 (M:Gs):∀(l:List (List UInt8)) (S:Sd),(∀s∈l,St.keeps M s=true)->St.sweep M l S=S
 |[],_,_=>rfl
 |s::r,S,h=>by
  unfold St.sweep;rw[h s p_];simp only[bW_,Bool.and_false,ai_,if_false];exact ay4 M r S (fun x o=>h x (f_ _ o))
theorem NO.gz6 (h:NO S V bs ts) (o:NS q S V c d):St.dv3 S=false:=by
 unfold St.dv3;have:(S.list.any fun s=>St.cx1 s&&!St.isNone S s)=true:=by
  rw[aF_];refine⟨kCur,o.calm.ez1.2 ⟨_,h.cur⟩,?_⟩;have h1:St.cx1 kCur=true:=rfl;have h2:St.isNone S kCur=false:=by
   unfold St.isNone;have z:(kCur==Mw.gy)=false:=by decide
   have C:(kCur==St.jy4)=false:=by decide
   have E:(kCur==St.jw)=false:=by decide
   rw[z,C,E];rfl
  rw[h1,h2];rfl
 rw[this];rfl
theorem NS.reopen (o:NS q S V c d) (h:NO S V bs ts):NS q S (St.old V.M (Lg.text bs).length bs) c d/\NO S (St.old V.M (Lg.text bs).length bs) bs ts:=by
 obtain⟨t,z,C⟩:=o.log;have e:t=Lg.text bs:=by
  have:=h.log;rw[z]at this;exact ah_ this
 subst e;have h1:=wx2 bs;have h2:=kj3 bs;refine⟨⟨o.calm,o.quota,rfl,?_,o.log,o.man,o.small,C,?_,?_,rfl,(iy2 _ Stt.nil).1,o.name,o.br,o.ok,o.files,o.count⟩,⟨h.in_,h.most,h.log,h.bat,rfl,h.cur,h.man,h.may,h.ne,h.run,h.count,h.lg,h.load⟩⟩
 ·show Mn.name Mn.kLog V.M.v.log=_
  rw[h.lg];decide+kernel
 ·show bs.length<=c
  omega
 ·show (St.bv2 bs).length<=c
  omega
end Nd
end
section
variable {w w0 w1 w2:World} {X X1 X2:Dw} {S S1 S2:Sd} {Y Y1 Y2:Yw} {V V1 V2:Sv} {nb now grace:Nat} {ni:Int}
theorem qz3 {q:Int} {c d:Nat} {bs:List (List It)} {ts:List Ed} (h:Dm w X S) (z:Nd.NS q S V c d) (o:Nd.NO S V bs ts) (hc:c<=70000) (E:ts.length<=30) (H:V.M.v.at_<=1099511627776) (ni:Int) (grace:Nat) (I:0<=ni/\ni < 7) (J:grace<=1099511627776):
  Calls Tryz.prog 5 #[ni,X.d,[grace]] w (zz3 X w S (St.old V.M (Lg.text bs).length bs) ni grace):=by
 have h1:=Nd.wx2 bs;obtain⟨t,O,Q⟩:=z.log;have e:t=Lg.text bs:=by
  have:=o.log;rw[O]at this;exact ah_ this
 subst e;have C:=aq5 h z.calm.dead (o.gz6 z) V.M (o.look z E) z.files (by rw[o.lg];omega) (by rw[z.name];decide+kernel) (Lg.text bs) bs (by
  rw[o.lg,show Mn.name Mn.kLog 1=St.jw by decide+kernel];exact z.calm.read (s:=St.jw) (by decide+kernel) o.log) (Lg.sx3 bs o.bat) (fun l E=>⟨(o.bat l E).1,Y_.2 fun x U=>((o.bat l E).2.2 x U).1⟩) o_ o_ (by have:=o.load;omega)
 rw[Nd.ay4 V.M _ _ (o.own z)]at C;exact xw3 S _ C (by show V.M.v.files.length<=_;rw[z.files];exact A_ _) H ni grace I J
end
end Go.Proofs.YtfbkjjdfboagfaaGreatDoor
