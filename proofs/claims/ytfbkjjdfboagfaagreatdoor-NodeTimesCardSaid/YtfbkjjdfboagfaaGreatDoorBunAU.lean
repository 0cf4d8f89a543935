/- Some of the texts. No conditions. -/
import Derived.Test.YtfbkjjdfboagfaaGreatDoorBunAQ
import Derived.Test.YtfbkjjdfboagfaaGreatDoorBunAR

set_option linter.unusedSimpArgs false
set_option linter.unusedVariables false
set_option maxRecDepth 100000
set_option maxHeartbeats 16000000
namespace Go.Proofs.YtfbkjjdfboagfaaGreatDoor
open Go.Proofs.Tryz Go Go.RowKit Go.Lib Go.Shelf
section
open Co
theorem Ct.Ends.hale {a b:Ct} {er:Nat} (h:a.hale) (e:Ct.Ends a b er):er=0/\b=a:=by
 refine⟨?_,h.reach e.1⟩
 cases er with
 |zero=>rfl
 |succ n=>
  obtain⟨c,h1,h2,_⟩:=e.2 s_;rw[h.reach h1,h.call]at h2
  cases h2
theorem oz3 (l:List (Int×Int)):dropAll [] l=some l:=rfl
theorem Vw.qx4 {v:Vw} (h:v.ok=true):Vw.none_.app v.whole=some v:=by
 obtain⟨g,fs,f,c,a,l⟩:=v;have o:g≠0:=by
  simp only[Vw.ok,isNum,N_,decide_eq_true_eq]at h;omega
 have z:∀x,orElse x 0=x:=fun x=>by unfold orElse;split<;>omega
 unfold Vw.app Vw.whole Vw.none_;simp only[oz3];simp[z,o,h]
theorem Vw.wq4 {v:Vw} (h:v.ok=true):Vw.none_.run [v.whole]=some v:=by
 simp only[Vw.run,Vw.qx4 h]
theorem Ed.gx5 (e:Ed):Ed.text [e]=e.rec_:=by simp[Ed.text,Fr.all,Ed.rec_]
namespace Gw
open Mn
open Mw (kCur gy headB sweep man NR kk2 iw1 lq1 iq1 ik1 vk dy1 fv1)
variable {d:Sd} {M:Gs} {n k:Nat} {t:List UInt8} {l:Nat}
theorem bx5 (hh:d.ct.hale) (hv:M.v.ok=true) (o:1<=k) (z:k<=1073741824) (h:d.co.In) (hm:d.co.most+1 < 64) (hq:d.co.total+2300<=d.quota) (hg:d.names.get (man k)=none):
  (rewrite d M (man k)).2=({ M with name:=man k,count:=1 },0)/\(rewrite d M (man k)).1.ct=d.ct/\bw1 NR [man k,gy,kCur] d.co (rewrite d M (man k)).1.co 2 2300/\
   (rewrite d M (man k)).1.co.Held kCur (headB k) (headB k).length/\(rewrite d M (man k)).1.co.Held (man k) M.v.whole.rec_ M.v.whole.rec_.length:=by
 have a9:=Ed.nx1 (Vw.pj1 hv);obtain⟨e1,e2,e3⟩:=Sd.cq3 (b:=M.v.whole.rec_) h (iq1 o z) hg o_ o_ o_;obtain⟨e0,e4⟩:=e1.hale hh;have H:bw1 NR [man k,gy,kCur] d.co (d.write (man k) M.v.whole.rec_).1.co 1 2012:=e2.mono (fun u C=>.inr (.inr (by rw[C,dy1 o z];rfl))) (fun u C=>by rw[c_.1 C];simp) l_ a9;have hb:=e3 e0;unfold rewrite;rw[if_neg (by rw[e0];simp)];generalize (d.write (man k) M.v.whole.rec_).1=d1 at *;have e9:d1.quota=d.quota:=H.quota;have e':=H.most;have f0:=H.total;have I:d1.ct.hale:=by rw[e4];exact hh
 have J:d1.dead=false:=I.1;obtain⟨d2,f1,f2,f3,f4,f5⟩:∃d2,tmp d1 M (man k)=Gw.hd d2 M (man k)/\d2.ct=d.ct/\bw1 NR [man k,gy,kCur] d.co d2.co 1 2012/\d2.names.get gy=none/\d2.co.Now (man k) M.v.whole.rec_ M.v.whole.rec_.length:=by
  unfold tmp
  cases E:d1.names.get gy with
  |none=>
   have hr:(d1.read gy).2=11:=by
    unfold Sd.read;rw[if_neg (by rw[vk];simp),if_neg (by rw[J];simp),E]
   rw[if_neg (by rw[hr];decide)];exact⟨d1,rfl,e4,H,E,hb⟩
  |some i=>
   have hr:(d1.read gy).2=0:=by
    unfold Sd.read;rw[if_neg (by rw[vk];simp),if_neg (by rw[J];simp),E]
   obtain⟨c1,c2,c3⟩:=Sd.bx3 vk E;rw[I.call]at c1 c2 c3;rw[if_pos rfl]at c3;rw[if_pos hr,if_neg (by rw[c1];simp)];have k1:bw1 (·=gy) [] d1.co (d1.co.remove gy) 0 0:=aj2 H.in_ E;have O:=Co.mj3 H.in_ gy;rw[<-c3]at k1 O;exact⟨_,rfl,c2.trans e4,(H.trans (k1.mono (fun u C=>.inl C) (fun _ h=>by cases h) l_ l_)),O,k1.now _ (iw1 o z) _ _ hb⟩
 rw[f1];have Q:(number (man k) kMan).getD 0=(k:Int):=by rw[dy1 o z];rfl
 have b2:=jj2 k;have U:d2.ct.hale:=by rw[f2];exact hh
 have f6:d2.quota=d.quota:=f3.quota;have f7:=f3.most;have f8:=f3.total;obtain⟨g1,g2,g3⟩:=Sd.cq3 (b:=headB k) f3.in_ vk f4 o_ o_ o_;obtain⟨g0,g4⟩:=g1.hale U;have hp:=g3 g0;have b3:=g2.now _ (iw1 o z) _ _ f5;have k2:bw1 NR [man k,gy,kCur] d.co (d2.write gy (headB k)).1.co 2 2212:=(f3.trans (g2.mono (fun u C=>.inl C) (fun u C=>by rw[c_.1 C];simp) l_ b2));unfold Gw.hd;rw[Q,if_neg (by rw[g0];simp)];generalize (d2.write gy (headB k)).1=d3 at *;have a0:d3.ct.hale:=by rw[g4];exact U
 obtain⟨c1,c2,c3⟩:=Sd.pw2 (d:=d3);rw[a0.call]at c1 c2 c3;rw[if_pos rfl]at c3;unfold sd1;rw[if_neg (by rw[c1];simp)];have k3:=ux1 k2.in_;have a2:=Co.Now.ak hp;have a4:=Co.Now.ak b3;rw[<-c3]at k3 a2 a4;generalize (d3.ak).1=d4 at *;have a5:d4.ct.hale:=by rw[c2];exact a0
 obtain⟨i,i1,i2,i3,i4⟩:=a2;obtain⟨r1,r2,r3⟩:=Sd.sz4 vk ik1 lq1.symm i1;rw[a5.call]at r1 r2 r3;rw[if_pos rfl]at r3;unfold ren;rw[if_neg (by rw[r1];simp)];have k4:bw1 (fun u=>u=gy\/u=kCur) [gy,kCur] d4.co (d4.co.rename gy kCur) 0 0:=iy3 k3.in_ (by decide) i1;have a6:=Co.Now.moved k3.in_ (Co.Held.now ⟨i,i1,i2,i3,i4⟩) lq1.symm;have a7:=Co.Held.rename (a:=gy) (b:=kCur) k3.in_ a4 (iw1 o z) (kk2 o z);rw[<-r3]at k4 a6 a7;generalize (d4.rename gy kCur).1=d5 at *;have b9:d5.ct.hale:=by rw[r2];exact a5
 obtain⟨u1,u2⟩:=rk5 (M:=M) o z k4.in_ a6 (Co.Held.now a7);obtain⟨u0,u3⟩:=u1.hale b9
 rcases u2 with ⟨v1,v2,v3,v4,v5,v6⟩|⟨v1,_⟩
 ·refine⟨cO_ v2 v1,by rw[u3,r2,c2,g4,f2],?_,v5,v6⟩
  have:=((k2.trans (k3.mono (fun _ h=>h.elim) (fun _ h=>by cases h) l_ l_)).trans (k4.mono (fun u C=>C.elim .inl (fun e=>.inr (.inl e))) (fun u C=>f_ _ C) l_ l_)).trans (v3.mono (fun _ h=>h) (fun _ h=>by cases h) l_ l_);exact this.mono (fun _ h=>h) (fun _ h=>h) o_ o_
 ·exact absurd u0 v1
end Gw
open Mw (kCur gy headB man NR)
theorem xz3 {d:Sd} {s t:List UInt8} {l:Nat} (o:Sd.named s=true) (hd:d.dead=false) (h:d.co.Now s t l):d.read s=(t,0):=by
 obtain⟨i,g,f⟩:=h;have z:d.names.get s=some i:=g;have f':d.files[i]?=some (t,l):=f;unfold Sd.read;rw[if_neg (by simp[o]),if_neg (by simp[hd]),z];simp[t_,f']
theorem dx5 {d:Sd} {n:Nat} {t:List UInt8} {l lc:Nat} {v:Vw} {k stop:Nat} (hd:d.dead=false) (o:1<=n) (z:n<=1073741824) (H:d.co.Now kCur (headB n) lc) (I:d.co.Now (man n) t l) (J:Vw.views t=some (v,k,stop)):
  Gw.look d=(some (⟨man n,v,k,false⟩,decide (stop < t.length)||decide (30 < k)),0):=by
 have h1:=xz3 Mw.ik1 hd H;have h2:=xz3 (Mw.iq1 o z) hd I;have O:headB n=Fr.put 8 (Pn.put n):=rfl;have C:=Fr.rq [] 8 (Pn.put n) [] o_ o_ (by have:=Pn.jq n;omega);simp only[D_,aM_,R_,am_]at C;rw[<-O]at C;have E:=Pn.rq n [] o_;rw[aM_]at E;unfold Gw.look;rw[h1,if_neg s_];unfold Gw.vv5;rw[C,if_neg s_];unfold Gw.rj5;rw[E,if_neg (by simp;omega)];unfold Gw.lookT;rw[show Mn.name Mn.kMan ((n:Nat):Int)=man n from rfl,h2,if_neg s_];simp only;rw[J]
end
section
open Co
namespace Sd
def ij5 (f f':List UInt8×Nat):Prop:=∃m,f.2<=m/\m<=f.1.length/\f'=(f.1.take m,m)
theorem sy5 (n:Nat) (x:Int):kept n x<=n:=by
 unfold kept;have h1:=cE_ x (show ((n:Int)+1)≠0 by omega);have h2:=cl_ x (show (0:Int) < (n:Int)+1 by omega);omega
theorem fq1:∀(L:List Nat) (fs:List (List UInt8×Nat)) (keep:List Int),(∀f∈fs,f.2<=f.1.length)->(cutFiles L fs keep).1.length=fs.length/\∀(i:Nat) (f:List UInt8×Nat),fs[i]?=some f->∃f',(cutFiles L fs keep).1[i]?=some f'/\(f'=f\/ij5 f f')/\(i∈L->ij5 f f')
 |[],fs,keep,_=>⟨rfl,fun i f h=>⟨f,h,.inl rfl,fun h=>by cases h⟩⟩
 |j::r,fs,keep,I=>by
  have o:∀f:List UInt8×Nat,f.2<=f.1.length->f.1.length - f.2=0->ij5 f f:=fun f h1 h2=>⟨f.1.length,h1,B_ _,by
   rw[cb_];exact cO_ rfl (by simp only;omega)⟩
  rw[cutFiles];split
  ·rename_i E
   obtain⟨h1,h2⟩:=fq1 r fs keep I;refine⟨h1,fun i f hi=>?_⟩;obtain⟨f',a,b,c⟩:=h2 i f hi;refine⟨f',a,b,fun z=>?_⟩
   rcases h_.1 z with rfl|z
   ·rcases b with rfl|b
    ·have J:fs.getD i ([],0)=f':=by rw[t_,hi];rfl
     rw[J]at E;exact o f' (I f' (u_ hi)) E
    ·exact b
   ·exact c z
  ·rename_i E
   have O:∃g,fs[j]?=some g/\fs.getD j ([],0)=g:=by
    cases hj:fs[j]? with
    |none=>rw[t_,hj]at E;simp at E
    |some g=>exact⟨g,rfl,by rw[t_,hj];rfl⟩
   obtain⟨g,hj,J⟩:=O;simp only[J]at E ⊢;have a2:=I g (u_ hj);have hk:=sy5 (g.1.length - g.2) (next keep ((g.1.length - g.2:Nat):Int)).1;generalize kept (g.1.length - g.2) (next keep ((g.1.length - g.2:Nat):Int)).1=k at *;have H:(g.1.take (g.2+k)).length=g.2+k:=by rw[y_];omega
   rw[H];have Q:∀f∈fs.set j (g.1.take (g.2+k),g.2+k),f.2<=f.1.length:=fun f z=>by
    rcases bM_ z with h1|h1
    ·exact I f h1
    ·rw[h1];simp only;omega
   obtain⟨h1,h2⟩:=fq1 r (fs.set j (g.1.take (g.2+k),g.2+k)) (next keep ((g.1.length - g.2:Nat):Int)).2 Q;refine⟨by rw[h1,av_],fun i f hi=>?_⟩;obtain⟨U,_⟩:=C_.1 hj
   by_cases C:j=i
   ·subst C
    rw[hj]at hi;injection hi with hi;subst hi;obtain⟨f',a,b,_⟩:=h2 j (g.1.take (g.2+k),g.2+k) (by simp[U]);have hc:ij5 g f':=by
     rcases b with rfl|⟨m,m1,m2,rfl⟩
     ·exact⟨g.2+k,o_,o_,rfl⟩
     ·simp only at m1 m2
      rw[H]at m2;refine⟨g.2+k,o_,o_,?_⟩;have e:m=g.2+k:=o_
      rw[e,aH_,cG_]
    exact⟨f',a,.inr hc,fun _=>hc⟩
   ·obtain⟨f',a,b,c⟩:=h2 i f (by rw[a3_ C];exact hi)
    refine⟨f',a,b,fun z=>?_⟩
    rcases h_.1 z with h|z
    ·exact absurd h.symm C
    ·exact c z
theorem mz1:∀(us:List Tn) (m:Nm) (keep:List Int),∃vs:List Tn,vs.Sublist us/\doTurns us m keep=vs.foldl (fun m u=>u.go m) m
 |[],m,_=>⟨[],List.Sublist.refl _,rfl⟩
 |u::r,m,keep=>by
  rw[doTurns]
  by_cases h:(next keep 0).1 % 2=0
  ·simp only[h,if_true]
   obtain⟨vs,a,b⟩:=mz1 r (u.go m) (next keep 0).2;exact⟨u::vs,a.cons_cons u,b⟩
  ·simp only[h,if_false]
   obtain⟨vs,a,b⟩:=mz1 r m (next keep 0).2;exact⟨vs,a.cons u,b⟩
variable {d:Sd}
theorem aq4 (Q:d.Wf) (hi:d.co.In) (keep:List Int):Cr d.co (d.ak1 keep).co:=by
 have U:∀f∈d.files,f.2<=f.1.length:=fun f hm=>by
  obtain⟨i,hi,rfl⟩:=aI_ hm;exact(Q.file i hi).1
 obtain⟨h1,h2⟩:=fq1 d.led d.files keep U;obtain⟨vs,J,O⟩:=mz1 d.turns d.lasted (cutFiles d.led d.files keep).2;refine⟨rfl,rfl,rfl,⟨vs,J,O⟩,h1,fun i f o=>?_⟩;obtain⟨f',a,b,c⟩:=h2 i f o;refine⟨f',a,?_,fun hn hl=>?_⟩
 ·rcases b with rfl|⟨m,m1,m2,rfl⟩
  ·exact B_ _
  ·simp only[y_];omega
 ·obtain⟨p,hp,rfl⟩:=hn
  have z:p.2∈d.led:=by
   have H:p.2 < d.files.length:=(C_.1 o).1;unfold led;refine ac_.2 ⟨bd_.2 H,?_⟩;have C:p∈doTurns d.turns d.lasted (cutFiles d.led d.files keep).2:=hp;rw[O]at C;unfold dx1
   rcases wy3 C with h3|⟨q,hq,e⟩
   ·have h4:=(xq2 J).subset h3
    unfold made at h4;obtain⟨t,ht,e⟩:=aP_.1 h4;obtain⟨I,E⟩:=ac_.1 ht;have:(d.turns.any fun t=>decide (t.kind=1) &&decide (t.file=p.2))=true:=by
     rw[aF_];exact⟨t,I,by simp only[decide_eq_true_eq]at E;simp[E,e]⟩
    rw[this];rfl
   ·have:(d.lasted.any fun x=>decide (x.2=p.2))=true:=by
     rw[aF_];exact⟨q,hq,by simp[e]⟩
    rw[this];simp
  exact c z
theorem uk3 (C:d.Wf) (hi:d.co.In) (hm:d.co.most<=64) (keep:List Int):(d.ak1 keep).Wf:=by
 have O:=aq4 C hi keep;have o:=O.in_ hi;have I:=(O.zw4 hi).2;obtain⟨vs,Q,v2⟩:=mz1 d.turns d.lasted (cutFiles d.led d.files keep).2;have U:∀p∈(d.ak1 keep).names,named p.1=true:=by
  have key:∀(us:List Tn) (m:Nm),(∀p∈m,named p.1=true)->(∀t∈us,named t.a=true/\(t.kind=2->named t.b=true))->∀p∈us.foldl (fun m u=>u.go m) m,named p.1=true:=by
   intro us
   induction us with
   |nil=>intro m h _;exact h
   |cons u r ih=>intro m h z;exact ih _ (vx3 h u (z u s_)) (fun t J=>z t (by simp[J]))
  intro p hp;have E:p∈doTurns d.turns d.lasted (cutFiles d.led d.files keep).2:=hp;rw[v2]at E;exact key vs d.lasted C.glasted (fun t z=>⟨(C.gturns t (Q.subset z)).1,(C.gturns t (Q.subset z)).2.1⟩) p E
 refine⟨C.quota,fun i h=>?_,o.lead,o.lead,o.apart,o.apart,g_ I hm,fun t z=>(by cases z),U,U,fun t z=>(by cases z),A_ _,A_ _⟩;have hf:∀f∈d.files,f.2<=f.1.length:=fun f H=>by
  obtain⟨i,hi,rfl⟩:=aI_ H;exact(C.file i hi).1
 obtain⟨h1,h2⟩:=fq1 d.led d.files keep hf;have hid:i < d.files.length:=by
  have:(cutFiles d.led d.files keep).1.length=(d.ak1 keep).files.length:=rfl;omega
 obtain⟨f',a,b,_⟩:=h2 i d.files[i] (j_ hid);have e:(d.ak1 keep).files[i]=f':=by
  have a':(d.ak1 keep).files[i]?=some f':=a;rw[j_ h]at a';exact ah_ a'
 rw[e];have:=C.file i hid
 rcases b with rfl|⟨m,m1,m2,rfl⟩
 ·exact this
 ·simp only[y_];omega
theorem jj4 (z:d.Wf) (keep:List Int):(d.ak1 keep).load<=d.load:=by
 have C:∀f∈d.files,f.2<=f.1.length:=fun f o=>by
  obtain⟨i,hi,rfl⟩:=aI_ o;exact(z.file i hi).1
 have h1:=(fq1 d.led d.files keep C).1;unfold load;have E:(d.ak1 keep).files.length=d.files.length:=h1;have H:(d.ak1 keep).turns.length=0:=rfl;omega
end Sd
end
end Go.Proofs.YtfbkjjdfboagfaaGreatDoor
