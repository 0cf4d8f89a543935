/- Texts PlainTwo in one. No conditions. -/
import Derived.Test.YthjdpplgfdihoaaGreatDoorBunBH
import Derived.Test.YthjdpplgfdihoaaGreatDoorBunBI

set_option linter.unusedSimpArgs false
set_option linter.unusedVariables false
set_option maxRecDepth 100000
set_option maxHeartbeats 16000000
namespace Go.Proofs.YthjdpplgfdihoaaGreatDoor
section
open Go
namespace Nd
variable {q:Int} {S:Sd} {V:Sv} {c d:Nat}
theorem mz4 {v:Vw} (hv:v.ok=true) {m:Mt} (hm:St.may1 m.floor v.floor∧St.may1 m.cert v.cert∧St.may1 m.at_ v.at_∧St.may1 m.lease v.lease):v.app ⟨[],[],0,m.floor,m.cert,m.at_,m.lease⟩=some { v with floor:=m.floor,cert:=m.cert,at_:=m.at_,lease:=m.lease }:=by
 obtain⟨⟨m1,n1⟩,⟨m2,n2⟩,⟨m3,n5⟩,⟨m4,n6⟩⟩:=hm;have ho:({ v with floor:=m.floor,cert:=m.cert,at_:=m.at_,lease:=m.lease }:Vw).ok=true:=by
  simp only[Vw.ok,tx2,K_,decide_eq_true_eq]at hv ⊢;refine⟨⟨⟨hv.1.1.1,?_⟩,hv.1.2⟩,hv.2⟩;omega
 have hz:∀a b:Nat,(a=0→b=0)→orElse a b=a:=fun a b h=>by
  unfold orElse;split
  ·rename_i e
   rw[h e,e]
  ·rfl
 unfold Vw.app dropAll;simp only[hz _ _ n1,hz _ _ n2,hz _ _ n5,hz _ _ n6,if_true,aU_];rw[if_pos ho]
theorem NS.setm (h:NS q S V c d) (hq:500000≤q) (hd:d+2012≤70000) {m:Mt} (hm:St.tz1 m (St.oz V)):
  ∃S' V',St.setMeta S V m=(S',V',0)∧NS q S' V' c (d+2012)∧V'.st=V.st∧V'.M.v={ V.M.v with floor:=m.floor,cert:=m.cert,at_:=m.at_,lease:=m.lease }:=by
 obtain⟨⟨m1,n1⟩,⟨m2,n2⟩,⟨m3,n5⟩,⟨m4,n6⟩⟩:=hm;have he:(⟨[],[],0,m.floor,m.cert,m.at_,m.lease⟩:Ed).may=true:=by
  simp[Ed.may,tx2];omega
 have hr:=Ed.sq1 he;obtain⟨t,ht,hc0⟩:=h.log;obtain⟨t2,ht2,hd0⟩:=h.man;obtain⟨ln,lu⟩:=h.calm.qj h.small;have n3:St.jy≠Mw.man 1:=by decide+kernel
 have hnm:Sd.named (Mw.man 1)=true:=by decide+kernel
 obtain⟨a1,a2,a3,a4⟩:=h.calm.append (s:=Mw.man 1) hnm ht2 (Ed.rec_ ⟨[],[],0,m.floor,m.cert,m.at_,m.lease⟩) (by omega) (by have:=h.quota;simp at lu;omega);obtain⟨b1,b2,b3,b4⟩:=a2.sync (s:=Mw.man 1) hnm (x:=t2++Ed.rec_ ⟨[],[],0,m.floor,m.cert,m.at_,m.lease⟩) (by rw[a3,upd,if_pos rfl]);have hsv:Gw.save S V.M ⟨[],[],0,m.floor,m.cert,m.at_,m.lease⟩=(((S.append (Mw.man 1) (Ed.rec_ ⟨[],[],0,m.floor,m.cert,m.at_,m.lease⟩)).1.sync (Mw.man 1)).1,{ V.M with count:=V.M.count+1,v:={ V.M.v with floor:=m.floor,cert:=m.cert,at_:=m.at_,lease:=m.lease } },0):=by
  unfold Gw.save;rw[if_neg (by rw[h.br];simp),if_neg (by rw[he];simp),mz4 h.ok ⟨⟨m1,n1⟩,⟨m2,n2⟩,⟨m3,n5⟩,⟨m4,n6⟩⟩];simp only;unfold Gw.put;rw[h.name,if_neg (by simp[a1]),if_neg (by simp[b1])]
 have ho:({ V.M.v with floor:=m.floor,cert:=m.cert,at_:=m.at_,lease:=m.lease }:Vw).ok=true:=by
  have hv:=h.ok;simp only[Vw.ok,tx2,K_,decide_eq_true_eq]at hv ⊢;refine⟨⟨⟨hv.1.1.1,?_⟩,hv.1.2⟩,hv.2⟩;omega
 refine⟨((S.append (Mw.man 1) (Ed.rec_ ⟨[],[],0,m.floor,m.cert,m.at_,m.lease⟩)).1.sync (Mw.man 1)).1,{ V with M:={ V.M with count:=V.M.count+1,v:={ V.M.v with floor:=m.floor,cert:=m.cert,at_:=m.at_,lease:=m.lease } } },?_,⟨b2,by rw[b4,a4,h.quota],h.only,h.nm,⟨t,?_,hc0⟩,⟨t2++Ed.rec_ ⟨[],[],0,m.floor,m.cert,m.at_,m.lease⟩,?_,?_⟩,⟨fun s x hx=>?_,fun s x hx=>?_⟩,h.sz,h.ct,h.mem,h.tabs,h.st,h.name,h.br,ho,h.files,?_⟩,rfl,rfl⟩
 ·unfold St.setMeta St.saved
  rw[if_neg (by rw[h.only];simp)];simp only;rw[hsv];simp only[h.br,h.only,bV_]
 ·rw[b3,a3,upd,if_neg n3]
  exact ht
 ·rw[b3,a3,upd,if_pos rfl]
 ·rw[e_]
  omega
 ·rw[b3,a3,upd]at hx
  split at hx
  ·subst_vars;simp
  ·exact h.small.names s x hx
 ·rw[b3,a3,upd]at hx
  split at hx
  ·injection hx with hx
   rw[←hx,e_];omega
  ·exact h.small.len s x hx
 ·have:=h.count
  simp only;omega
end Nd
end
end Go.Proofs.YthjdpplgfdihoaaGreatDoor
