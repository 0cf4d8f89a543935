/- Texts Look, OpenG, RefE, EditsW, EditsOpen, Same, LawM, PlainCrc, PlainTurns, PlainBursts, LawC, HosP, HosM, PlainMst, PlainCrash, LogB, RegionInv, Led, LedB in one. No conditions. -/
import Derived.Test.YthjdpplgfdihoaaGreatDoorBunAO
import Derived.Test.YthjdpplgfdihoaaGreatDoorBunAN
import Derived.Test.YthjdpplgfdihoaaGreatDoorBunAA
import Derived.Deep.RegionHeld3
import Derived.Carry
import Derived.Test.YthjdpplgfdihoaaGreatDoorBunAG
import Derived.BigQuiet
import Derived.Test.YthjdpplgfdihoaaGreatDoorBunAS
import Derived.Test.YthjdpplgfdihoaaGreatDoorBunAF
import Derived.Test.YthjdpplgfdihoaaGreatDoorBunAM
import Derived.Test.YthjdpplgfdihoaaGreatDoorBunAL
import Derived.Orders
import Derived.RegionTactic
import Derived.Maps.OwnSet
import Derived.Test.YthjdpplgfdihoaaGreatDoorBunAB

set_option linter.unusedSimpArgs false
set_option linter.unusedVariables false
set_option maxRecDepth 100000
set_option maxHeartbeats 16000000
namespace Go.Proofs.YthjdpplgfdihoaaGreatDoor
section
open Go Go.RowKit Go.Shelf
namespace Gw
open Mn
open Mw (kCur)
def lookT (d:Sd) (n:Nat):Option (Gs×Bool)×Nat:=
 if (d.read (name kMan n)).2≠0 then (none,9)
 else match Vw.views (d.read (name kMan n)).1 with
  |none=>(none,9)
  |some (v,k,stop)=>(some (⟨name kMan n,v,k,false⟩,decide (stop < (d.read (name kMan n)).1.length)||decide (30 < k)),0)
def xj4 (d:Sd) (b:List UInt8):Option (Gs×Bool)×Nat:=
 if (Pn.take b).2.2≠0∨(Pn.take b).2.1≠b.length∨(Pn.take b).1 < 1∨1073741824 < (Pn.take b).1 then (none,9) else lookT d (Pn.take b).1
def wv4 (d:Sd) (t:List UInt8):Option (Gs×Bool)×Nat:=
 if (Fr.take t 0).2.2.2≠0∨(Fr.take t 0).1≠8∨(Fr.take t 0).2.2.1≠t.length then (none,9) else xj4 d (Fr.take t 0).2.1
def look (d:Sd):Option (Gs×Bool)×Nat:=
 if (d.read kCur).2≠0 then (none,(d.read kCur).2) else wv4 d (d.read kCur).1
def opens (d:Sd):Option Gs×Sd×Nat:=match look d with
 |(none,er)=>(none,d,er)
 |(some (M,must),_)=>if must=true then (if (rewriteM d M).2.2≠0 then (none,(rewriteM d M).1,(rewriteM d M).2.2) else (some (rewriteM d M).2.1,(rewriteM d M).1,0)) else (some M,d,0)
end Gw
theorem Sd.iw2 {d:Sd} (h:d.Wf) (s:List UInt8):(d.read s).1.length≤250000:=by
 unfold Sd.read;split
 ·simp
 ·split
  ·simp
  ·cases hg:d.names.get s with
   |none=>simp
   |some i=>exact(Sd.yy1 h (h.names _ (Nm.get_mem hg))).2
variable {m:Nat} {X X1:Dw} {w w1 w2:World} {S S1:Sd} {M M1:Gs}
def tx1 (X:Dw) (w:World) (R:Option (Gs×Bool)×Nat) (e:Ending) (w':World):Prop:=Below w.heap.size w w'∧match R with
 |(none,er)=>e=.returned (.tuple #[.pointer none,.bool false,.int .i64 (er:Int)])
 |(some (M,must),_)=>∃m P,e=.returned (.tuple #[.pointer (some ⟨m,0,none⟩),.bool must,.int .i64 0])∧GK w' m X.d M P∧w.heap.size≤m∧Vrow w' X m P M.v.files∧P.n≤40
theorem tx1.no {R:Option (Gs×Bool)×Nat} {er:Nat} (hR:R=(none,er)) (hb:Below w.heap.size w w1):tx1 X w R (.returned (.tuple #[.pointer none,.bool false,.int .i64 (er:Int)])) w1:=by
 subst hR;exact⟨hb,rfl⟩
theorem tx1.yes {R:Option (Gs×Bool)×Nat} {must:Bool} {er:Nat} (hR:R=(some (M,must),er)) (hb:Below w.heap.size w w1) {P:Sl} (h1:GK w1 m X.d M P) (h2:w.heap.size≤m) (h3:Vrow w1 X m P M.v.files) (h4:P.n≤40):tx1 X w R (.returned (.tuple #[.pointer (some ⟨m,0,none⟩),.bool must,.int .i64 0])) w1:=by
 subst hR;exact⟨hb,m,P,rfl,h1,h2,h3,h4⟩
theorem dz4 (h:Dm w X S):Calls Tryz.prog 79 #[.pointer (some ⟨X.d,0,none⟩)] w (tx1 X w (Gw.look S)):=by
 obtain⟨R,hR⟩:∃R,R=Gw.look S:=⟨_,rfl⟩;rw[←hR];have hwf:=h.wf;have hrd:=vq1 X S sCur (by decide) h.wf w h.dk;rw[tz2]at hrd;unfold sCur at hrd;have hl0:=Sd.iw2 hwf Mw.kCur;have hR2:R=if (S.read Mw.kCur).2≠0 then (none,(S.read Mw.kCur).2) else Gw.wv4 S (S.read Mw.kCur).1:=hR
 clear hR;generalize S.read Mw.kCur=rc at *;obtain⟨t,er⟩:=rc;simp only at hrd hl0 hR2
 by_cases her:er≠0
 ·have e1:((er:Int)==0)=false:=by simp;omega
  have e1':((er:Int) !=0)=true:=by simp;omega
  rw[if_pos her]at hR2;have HR:=Lib.hid hR2;clear hR2 her;go_enter Tryz.func79,Tryz.ntmps79;go_wp2_with fail;refine hrd.mono ?_;rintro e w1 ⟨A1,c1,rfl,_,hb1⟩;have HL:=Lib.hid (tx1.no (X:=X) HR.out hb1);clear hb1;go_wp2;refine bodyPost_ret (v:=.tuple #[.pointer none,.bool false,.int .i64 (er:Int)]) (by simp[results,go_sem]) rfl HL.out
 have her0:er=0:=by omega
 subst her0;rw[if_neg (by simp)]at hR2;clear her;have hR3:R=if (Fr.take t 0).2.2.2≠0∨(Fr.take t 0).1≠8∨(Fr.take t 0).2.2.1≠t.length then (none,9) else Gw.xj4 S (Fr.take t 0).2.1:=hR2
 clear hR2;have hft:=fun(A1:Option Addr) (c1:Nat) (w1:World) (h1:t.length≤c1) (h2:c1≤maxLen) (h3:Row w1.heap.size w1 A1 t.length 1 (bts t))=>uw2 A1 t.length c1 t 0 w1 (by omega) h1 h2 h3 (Nat.zero_le _);rw[show ((0:Nat):Int)=0 from rfl]at hft;have hbl:=Fr.take_len t 0;generalize Fr.take t 0=rt at *;obtain⟨k,bd,nx,er⟩:=rt;simp only at hbl;simp only at hft hR3;have HFT:=Lib.hid hft;have HRD:=Lib.hid hrd;clear hft hrd
 by_cases h1:er≠0∨k≠8∨nx≠t.length
 ·rw[if_pos h1]at hR3
  have HR:=Lib.hid hR3;clear hR3;have hc:(((er:Int)==0)=false∧((er:Int) !=0)=true)∨(er=0∧((k:Int)==8)=false∧((k:Int) !=8)=true)∨(er=0∧k=8∧((nx:Int)==(t.length:Int))=false∧((nx:Int) !=(t.length:Int))=true):=by
   by_cases a:er=0
   ·by_cases b:k=8
    ·refine .inr (.inr ⟨a,b,?_,?_⟩) <;>(simp;omega)
    ·refine .inr (.inl ⟨a,?_,?_⟩) <;>(simp;omega)
   ·refine .inl ⟨?_,?_⟩ <;>(simp;omega)
  clear h1
  rcases hc with ⟨e1,e1'⟩|⟨rfl,e1,e1'⟩|⟨rfl,rfl,e1,e1'⟩
  all_goals
   go_enter Tryz.func79,Tryz.ntmps79;go_wp2_with fail;refine HRD.out.mono ?_;rintro e w1 ⟨A1,c1,rfl,hown1,hb1⟩;have hcap1:t.length≤c1∧c1≤maxLen:=by
    obtain⟨A',c',e,h1,h2,_⟩:=ay hown1;injection e with _ e2 e3;omega
   have hft:=HFT.out A1 c1 w1 hcap1.1 hcap1.2 (Row.own hown1);clear hown1;go_wp2_with fail;refine hft.mono ?_;rintro e w2 ⟨A2,M2,c2,rfl,_,_,_,hb2⟩;have HL:=Lib.hid (tx1.no (X:=X) HR.out (hb1.trans (hb2.mono hb1.size)));clear hb1 hb2 hft;go_wp2;refine bodyPost_ret (v:=.tuple #[.pointer none,.bool false,.int .i64 9]) (by simp[results,go_sem]) rfl HL.out
 rw[if_neg h1]at hR3;obtain⟨rfl,rfl,rfl⟩:er=0∧k=8∧nx=t.length:=by omega
 clear h1;have hR4:R=if (Pn.take bd).2.2≠0∨(Pn.take bd).2.1≠bd.length∨(Pn.take bd).1 < 1∨1073741824 < (Pn.take bd).1 then (none,9) else Gw.lookT S (Pn.take bd).1:=hR3
 clear hR3;have htn:=fun(A1:Option Addr) (N c1:Nat) (w1:World) (h1:N≤1073741824) (h3:Row w1.heap.size w1 A1 N 1 (bts bd))=>take_any A1 N c1 bd w1 h1 h3;generalize Pn.take bd=rn at *;obtain⟨n,sz,er⟩:=rn;simp only at htn hR4;have HTN:=Lib.hid htn;clear htn
 by_cases h1:er≠0∨sz≠bd.length∨n < 1∨1073741824 < n
 ·rw[if_pos h1]at hR4
  have HR:=Lib.hid hR4;clear hR4;have hc:(((er:Int)==0)=false∧((er:Int) !=0)=true)∨(er=0∧((sz:Int)==(bd.length:Int))=false∧((sz:Int) !=(bd.length:Int))=true)∨(er=0∧sz=bd.length∧((n:Int) < 1)∧(n:Int) < 1)∨(er=0∧sz=bd.length∧((n:Int) < 1)=False∧(1073741824:Int) < (n:Int)):=by
   by_cases a:er=0
   ·by_cases b:sz=bd.length
    ·by_cases c:n < 1
     ·exact .inr (.inr (.inl ⟨a,b,by omega,by omega⟩))
     ·refine .inr (.inr (.inr ⟨a,b,?_,by omega⟩))
      simp;omega
    ·refine .inr (.inl ⟨a,?_,?_⟩) <;>(simp;omega)
   ·refine .inl ⟨?_,?_⟩ <;>(simp;omega)
  clear h1
  rcases hc with ⟨e1,e2⟩|⟨rfl,e1,e2⟩|⟨rfl,rfl,e1,e2⟩|⟨rfl,rfl,e1,e2⟩
  all_goals
   go_enter Tryz.func79,Tryz.ntmps79;go_wp2_with fail;refine HRD.out.mono ?_;rintro e w1 ⟨A1,c1,rfl,hown1,hb1⟩;have hcap1:t.length≤c1∧c1≤maxLen:=by
    obtain⟨A',c',e,h1,h2,_⟩:=ay hown1;injection e with _ e2 e3;omega
   have hft:=HFT.out A1 c1 w1 hcap1.1 hcap1.2 (Row.own hown1);clear hown1;go_wp2_with fail;refine hft.mono ?_;rintro e w2 ⟨A2,M2,c2,rfl,hown2,hM2,hc2,hb2⟩;have hM2e:bd.length=M2:=(Row.own hown2).yz;subst hM2e;have htn:=HTN.out A2 bd.length c2 w2 (by omega) (Row.own hown2);have hb12:=hb1.trans (hb2.mono hb1.size);clear hb1 hb2 hft hown2;go_wp2_with fail;refine htn.mono ?_;rintro e w3 ⟨rfl,rfl⟩;have HL:=Lib.hid (tx1.no (X:=X) HR.out hb12);clear hb12 htn;go_wp2;refine bodyPost_ret (v:=.tuple #[.pointer none,.bool false,.int .i64 9]) (by simp[results,go_sem]) rfl HL.out
 rw[if_neg h1]at hR4;obtain⟨rfl,rfl,hn1,hn2⟩:er=0∧sz=bd.length∧1≤n∧n≤1073741824:=by omega
 clear h1;have n1:((n:Int) < 1)=False:=by simp;omega
 have n2:((1073741824:Int) < (n:Int))=False:=by simp;omega
 have hR5:R=if (S.read (Mn.name Mn.kMan n)).2≠0 then (none,9) else match Vw.views (S.read (Mn.name Mn.kMan n)).1 with
  |none=>(none,9)
  |some (v,k,stop)=>(some (⟨Mn.name Mn.kMan n,v,k,false⟩,decide (stop < (S.read (Mn.name Mn.kMan n)).1.length)||decide (30 < k)),0):=hR4
 clear hR4;obtain⟨nm,hNM⟩:∃nm,nm=Mn.name Mn.kMan (n:Int):=⟨_,rfl⟩;have hnl:=sj3 n;rw[←hNM]at hR5 hnl;have HNM:=Lib.hid hNM;clear hNM;have hl2:=Sd.iw2 hwf nm;have hrd2:=fun(W:World) (hW:Dm W X S)=>vq1 X S (str nm) (by rw[qx];unfold maxLen;omega) hwf W hW.dk;rw[rq]at hrd2;generalize S.read nm=rr at *;obtain⟨u,er⟩:=rr;simp only at hrd2 hl2 hR5;have HRD2:=Lib.hid hrd2;have HR:=Lib.hid hR5;clear hR5 hrd2;go_enter Tryz.func79,Tryz.ntmps79;go_wp2_with fail;refine HRD.out.mono ?_;rintro e w1 ⟨A1,c1,rfl,hown1,hb1⟩;have hcap1:t.length≤c1∧c1≤maxLen:=by
  obtain⟨A',c',e,h1,h2,_⟩:=ay hown1;injection e with _ e2 e3;omega
 have hft:=HFT.out A1 c1 w1 hcap1.1 hcap1.2 (Row.own hown1);clear hown1;go_wp2_with fail;refine hft.mono ?_;rintro e w2 ⟨A2,M2,c2,rfl,hown2,hM2,hc2,hb2⟩;have hM2e:bd.length=M2:=(Row.own hown2).yz;subst hM2e;have htn:=HTN.out A2 bd.length c2 w2 (by omega) (Row.own hown2);have h2:=(h.below hb1).below hb2;have hb12:=hb1.trans (hb2.mono hb1.size);clear hb1 hb2 hft hown2;go_wp2_with fail;refine htn.mono ?_;rintro e w3 ⟨rfl,rfl⟩;have hnm:=name_any sMan (by decide) (n:Int) (by omega) w2 h2.env;rw[ny1,←show nm=_ from HNM.out]at hnm;unfold sMan at hnm;clear htn;go_wp2_with fail;refine hnm.mono ?_;rintro e w4 ⟨rfl,hb4⟩;have h4:=h2.below hb4;have hb14:=hb12.trans (hb4.mono hb12.size);have hrd2:=HRD2.out w4 h4;clear hnm hb12 hb4 h2;go_wp2_with fail;refine hrd2.mono ?_;rintro e w5 ⟨A5,c5,rfl,hown5,hb5⟩;have hb15:=hb14.trans (hb5.mono hb14.size)
 by_cases her:er≠0
 ·have e1:((er:Int)==0)=false:=by simp;omega
  have e1':((er:Int) !=0)=true:=by simp;omega
  have HL:=Lib.hid (tx1.no (X:=X) (HR.out.trans (if_pos her)) hb15);clear her hb15 hown5 hb5 hb14 h4 hrd2;go_wp2;refine bodyPost_ret (v:=.tuple #[.pointer none,.bool false,.int .i64 9]) (by simp[results,go_sem]) rfl HL.out
 have her0:er=0:=by omega
 subst her0;have hR6:=HR.out.trans (if_neg her);have hcap5:u.length≤c5∧c5≤maxLen:=by
  obtain⟨A',c',e,h1,h2,_⟩:=ay hown5;injection e with _ e2 e3;omega
 have hvw:=xz3 A5 u.length c5 u w5 (by omega) hcap5.1 hcap5.2 (Row.own hown5);have h5:=h4.below hb5;clear hrd2 hb5 hown5 hb14 h4 her
 cases hV:Vw.views u with
 |none=>
  rw[hV]at hvw hR6;have HR6:=Lib.hid hR6;clear hR6 hV HR;go_wp2_with fail;refine hvw.mono ?_;rintro e w6 ⟨hb6,he6⟩;simp only[Vw.none_,Vw.val]at he6;subst he6;have HL:=Lib.hid (hb15.trans (hb6.mono hb15.size));clear hb6 hb15 hvw;go_wp2;refine bodyPost_ret (v:=.tuple #[.pointer none,.bool false,.int .i64 9]) (by simp[results,go_sem]) rfl (tx1.no (er:=9) HR6.out (HL.out.alloc HL.out.size _))
 |some x=>
  obtain⟨v,k,stop⟩:=x;rw[hV]at hvw hR6;simp only at hR6;obtain⟨bb,hbb⟩:∃bb,bb=(decide (stop < u.length)||decide (30 < k)):=⟨_,rfl⟩;rw[←hbb]at hR6;have HR6:=Lib.hid hR6;have HBB:=Lib.hid hbb;clear hR6 hV HR hbb;go_wp2_with fail;refine hvw.mono ?_;rintro e w6 ⟨hb6,A,N,c,rfl,hN,hfr⟩;unfold Vw.val;have hb16:=hb15.trans (hb6.mono hb15.size);have hb17:=(hb16.alloc hb16.size (.cells #[.int .i64 v.log,.slice A N c,.int .u64 (v.floor:Int),.int .u64 (v.cert:Int),.int .u64 (v.at_:Int),.int .u64 (v.lease:Int)] 86));have hlt6:=hb16.size;have hlow6:∀a,A=some a→w5.heap.size≤a.block:=hfr.low;have hbx:GK ((w6.alloc (.cells #[.int .i64 v.log,.slice A N c,.int .u64 (v.floor:Int),.int .u64 (v.cert:Int),.int .u64 (v.at_:Int),.int .u64 (v.lease:Int)] 86)).alloc (.cells #[.pointer (some ⟨X.d,0,none⟩),.string (str nm),.int .i64 v.log,.slice A N c,.int .u64 (v.floor:Int),.int .u64 (v.cert:Int),.int .u64 (v.at_:Int),.int .u64 (v.lease:Int),.int .i64 (k:Int),.int .u32 0,.int .i32 0,.int .u32 0,.bool false] 224)) (w6.heap.size+1) X.d ⟨nm,v,k,false⟩ ⟨A,N,c⟩:=by
   have:=BoxO.new (w6.alloc (.cells #[.int .i64 v.log,.slice A N c,.int .u64 (v.floor:Int),.int .u64 (v.cert:Int),.int .u64 (v.at_:Int),.int .u64 (v.lease:Int)] 86)) #[.pointer (some ⟨X.d,0,none⟩),.string (str nm),.int .i64 v.log,.slice A N c,.int .u64 (v.floor:Int),.int .u64 (v.cert:Int),.int .u64 (v.at_:Int),.int .u64 (v.lease:Int),.int .i64 (k:Int),.int .u32 0,.int .i32 0,.int .u32 0,.bool false] 224;rw[show ∀o,(w6.alloc o).heap.size=w6.heap.size+1 from fun _=>by simp]at this;exact this
  have hb18:=hb17.alloc hb17.size (.cells #[.pointer (some ⟨X.d,0,none⟩),.string (str nm),.int .i64 v.log,.slice A N c,.int .u64 (v.floor:Int),.int .u64 (v.cert:Int),.int .u64 (v.at_:Int),.int .u64 (v.lease:Int),.int .i64 (k:Int),.int .u32 0,.int .i32 0,.int .u32 0,.bool false] 224);have hvr:∀o o',Vrow ((w6.alloc o).alloc o') X (w6.heap.size+1) ⟨A,N,c⟩ v.files:=fun o o'=>by
   refine⟨((((hfr.row.alloc (Nat.le_refl _) o).up (by simp)).alloc (Nat.le_refl _) o').up (by simp)),hfr.nc,hfr.cm,by simp only;omega,fun j hj a ha=>⟨?_,fun hm=>?_⟩⟩
   ·obtain⟨a',e,hb,_⟩:=hfr.row.cell j hj
    simp only at ha;rw[ha]at e;injection e with e;subst e;omega
   ·have h4:=hfr.low a ha
    have h5:=h5.dk.lt _ hm;omega
  have hGL:∀b,bb=b→tx1 X w R (.returned (.tuple #[.pointer (some ⟨w6.heap.size+1,0,none⟩),.bool b,.int .i64 0])) ((w6.alloc (.cells #[.int .i64 v.log,.slice A N c,.int .u64 (v.floor:Int),.int .u64 (v.cert:Int),.int .u64 (v.at_:Int),.int .u64 (v.lease:Int)] 86)).alloc (.cells #[.pointer (some ⟨X.d,0,none⟩),.string (str nm),.int .i64 v.log,.slice A N c,.int .u64 (v.floor:Int),.int .u64 (v.cert:Int),.int .u64 (v.at_:Int),.int .u64 (v.lease:Int),.int .i64 (k:Int),.int .u32 0,.int .i32 0,.int .u32 0,.bool false] 224)):=fun b hb=>tx1.yes (er:=0) (by rw[←hb];exact HR6.out) hb18 hbx (by omega) (hvr _ _) hN;have HGL:=Lib.hid hGL;clear hGL hvr hb18 hbx hb17 hb16 hb15 hb6 hvw hlow6 h5 hfr
  by_cases q1:stop < u.length
  ·have q1':(stop:Int) < (u.length:Int):=by omega
   have hb0:bb=true:=by rw[show bb=_ from HBB.out];simp[q1]
   have HG2:=Lib.hid (HGL.out true hb0);clear q1 hb0 HGL;go_wp2;refine bodyPost_ret (v:=.tuple #[.pointer (some ⟨w6.heap.size+1,0,none⟩),.bool true,.int .i64 0]) (by simp[results,Tryz.results79,go_sem]) rfl HG2.out
  ·have q1':((stop:Int) < (u.length:Int))=False:=by simp;omega
   by_cases q2:30 < k
   ·have q2':(30:Int) < (k:Int):=by omega
    have hb0:bb=true:=by rw[show bb=_ from HBB.out];simp[q2]
    have HG2:=Lib.hid (HGL.out true hb0);clear q1 q2 hb0 HGL;go_wp2;refine bodyPost_ret (v:=.tuple #[.pointer (some ⟨w6.heap.size+1,0,none⟩),.bool true,.int .i64 0]) (by simp[results,Tryz.results79,go_sem]) rfl HG2.out
   ·have q2':((30:Int) < (k:Int))=False:=by simp;omega
    have hb0:bb=false:=by rw[show bb=_ from HBB.out];simp[q1,q2]
    have HG2:=Lib.hid (HGL.out false hb0);clear q1 q2 hb0 HGL;go_wp2;refine bodyPost_ret (v:=.tuple #[.pointer (some ⟨w6.heap.size+1,0,none⟩),.bool false,.int .i64 0]) (by simp[results,Tryz.results79,go_sem]) rfl HG2.out
end
section
open Go Go.RowKit Go.Shelf
variable {m:Nat} {X X1:Dw} {w w1 w2:World} {S S1:Sd} {M M1:Gs}
end
section
open Go Go.RowKit
end
section
open Go Go.RowKit
end
section
open Go Go.RowKit Go.ChangeShapes Go.WideShapes Go.Deep Go.Joins
end
section
open Go Go.RowKit
end
section
open Go Go.RowKit Go.Shelf
variable {P P1:Sl} {W0 w w1 w2:World} {X X1:Dw} {S S1:Sd} {m m1:Nat} {M M1:Gs}
end
section
namespace Crc
end Crc
end
section
namespace Crc
end Crc
end
section
namespace Crc
end Crc
end
section
open Go Go.RowKit Go.Shelf
variable {W0 w w1 w2:World} {X X1:Dw} {S S1:Sd} {m m1 n:Nat} {M:Ms} {es:List Bv}
end
section
open Go Go.RowKit
namespace Crc
end Crc
namespace Fr
end Fr
end
section
open Go Go.RowKit
namespace Gw
open Mn
open Mw (kCur gq headB sweep qy1)
theorem fy4 {d:Sd} (hw:d.Wf) (M:Gs) (nm:List UInt8):(fin d M nm).1.load≤d.load+64:=by
 have h1:=Sd.ex1 d;have h2:=oz1 hw.ax;have h3:=qy1 nm (d.ax).1.list (d.ax).1;unfold fin;split
 ·dsimp only;omega
 ·dsimp only;omega
theorem ly4 {d:Sd} (hw:d.Wf) (M:Gs) (nm:List UInt8):(ren d M nm).1.load≤d.load+65:=by
 have h1:=Sd.yk1 d gq kCur;have h2:=fy4 (hw.rename gq kCur) M nm;unfold ren;split
 ·dsimp only;omega
 ·omega
theorem my4 {d:Sd} (hw:d.Wf) (M:Gs) (nm:List UInt8):(sd1 d M nm).1.load≤d.load+65:=by
 have h1:=Sd.ex1 d;have h2:=ly4 hw.ax M nm;unfold sd1;split
 ·dsimp only;omega
 ·omega
theorem sv3 {d:Sd} (hw:d.Wf) (M:Gs) (nm:List UInt8):(hd d M nm).1.load≤d.load+67:=by
 have h1:=Sd.lk1 d gq (headB ((number nm kMan).getD 0));have h2:=my4 (hw.write gq (headB ((number nm kMan).getD 0))) M nm;unfold hd;split
 ·dsimp only;omega
 ·omega
theorem ix4 {d:Sd} (hw:d.Wf) (M:Gs) (nm:List UInt8):(tmp d M nm).1.load≤d.load+68:=by
 have h1:=Sd.dj1 d gq;have h2:=sv3 (hw.remove gq) M nm;have h3:=sv3 hw M nm;unfold tmp;split
 ·split
  ·dsimp only;omega
  ·omega
 ·omega
theorem tv2 {d:Sd} (hw:d.Wf) (M:Gs) (nm:List UInt8):(rewrite d M nm).1.load≤d.load+70:=by
 have h1:=Sd.lk1 d nm M.v.whole.rec_;have h2:=ix4 (hw.write nm M.v.whole.rec_) M nm;unfold rewrite;split
 ·dsimp only;omega
 ·omega
end Gw
end
section
open Go Go.RowKit
open Co
theorem Ct.Ends.hale {a b:Ct} {er:Nat} (h:a.hale) (e:Ct.Ends a b er):er=0∧b=a:=by
 refine⟨?_,h.reach e.1⟩
 cases er with
 |zero=>rfl
 |succ n=>
  obtain⟨c,h1,h2,_⟩:=e.2 (by simp);rw[h.reach h1,h.call]at h2
  cases h2
theorem aw3 (l:List (Int×Int)):dropAll [] l=some l:=rfl
theorem Vw.zk3 {v:Vw} (h:v.ok=true):Vw.none_.app v.whole=some v:=by
 obtain⟨g,fs,f,c,a,l⟩:=v;have hg:g≠0:=by
  simp only[Vw.ok,isNum,Bool.and_eq_true,decide_eq_true_eq]at h;omega
 have e1:∀x,orElse x 0=x:=fun x=>by unfold orElse;split<;>omega
 unfold Vw.app Vw.whole Vw.none_;simp only[aw3];simp[e1,hg,h]
theorem Vw.ay4 {v:Vw} (h:v.ok=true):Vw.none_.run [v.whole]=some v:=by
 simp only[Vw.run,Vw.zk3 h]
theorem Ed.kw4 (e:Ed):Ed.text [e]=e.rec_:=by simp[Ed.text,Fr.all,Ed.rec_]
namespace Gw
open Mn
open Mw (kCur gq headB sweep man NR yx1 ek1 iq1 dx1 dv1 qy ay1 dq1)
variable {d:Sd} {M:Gs} {n k:Nat} {t:List UInt8} {l:Nat}
theorem dy4 (hh:d.ct.hale) (hv:M.v.ok=true) (hk1:1≤k) (hk2:k≤1073741824) (h:d.co.In) (hm:d.co.most+1 < 64) (hq:d.co.total+2300≤d.quota) (hg:d.names.get (man k)=none):
  (rewrite d M (man k)).2=({ M with name:=man k,count:=1 },0)∧(rewrite d M (man k)).1.ct=d.ct∧zq NR [man k,gq,kCur] d.co (rewrite d M (man k)).1.co 2 2300∧
   (rewrite d M (man k)).1.co.Held kCur (headB k) (headB k).length∧(rewrite d M (man k)).1.co.Held (man k) M.v.whole.rec_ M.v.whole.rec_.length:=by
 have hrl:=Ed.rq1 (Vw.kj1 hv);obtain⟨e1,e2,e3⟩:=Sd.vj2 (b:=M.v.whole.rec_) h (dx1 hk1 hk2) hg (by omega) (by omega) (by omega);obtain⟨e0,e4⟩:=e1.hale hh;have kk:zq NR [man k,gq,kCur] d.co (d.write (man k) M.v.whole.rec_).1.co 1 2012:=e2.mono (fun u hu=>.inr (.inr (by rw[hu,ay1 hk1 hk2];rfl))) (fun u hu=>by rw[List.mem_singleton.1 hu];simp) (Nat.le_refl _) hrl;have hb:=e3 e0;unfold rewrite;rw[if_neg (by rw[e0];simp)];generalize (d.write (man k) M.v.whole.rec_).1=d1 at *;have hq1:d1.quota=d.quota:=kk.quota;have hm1:=kk.most;have ht1:=kk.total;have hh1:d1.ct.hale:=by rw[e4];exact hh
 have hd1:d1.dead=false:=hh1.1;obtain⟨d2,f1,f2,f3,f4,f5⟩:∃d2,tmp d1 M (man k)=Gw.hd d2 M (man k)∧d2.ct=d.ct∧zq NR [man k,gq,kCur] d.co d2.co 1 2012∧d2.names.get gq=none∧d2.co.Now (man k) M.v.whole.rec_ M.v.whole.rec_.length:=by
  unfold tmp
  cases hgt:d1.names.get gq with
  |none=>
   have hr:(d1.read gq).2=11:=by
    unfold Sd.read;rw[if_neg (by rw[qy];simp),if_neg (by rw[hd1];simp),hgt]
   rw[if_neg (by rw[hr];decide)];exact⟨d1,rfl,e4,kk,hgt,hb⟩
  |some i=>
   have hr:(d1.read gq).2=0:=by
    unfold Sd.read;rw[if_neg (by rw[qy];simp),if_neg (by rw[hd1];simp),hgt]
   obtain⟨c1,c2,c3⟩:=Sd.rq2 qy hgt;rw[hh1.call]at c1 c2 c3;rw[if_pos rfl]at c3;rw[if_pos hr,if_neg (by rw[c1];simp)];have k1:zq (·=gq) [] d1.co (d1.co.remove gq) 0 0:=sw1 kk.in_ hgt;have hg1:=Co.xy2 kk.in_ gq;rw[←c3]at k1 hg1;exact⟨_,rfl,c2.trans e4,(kk.trans (k1.mono (fun u hu=>.inl hu) (fun _ h=>by cases h) (Nat.le_refl _) (Nat.le_refl _))),hg1,k1.now _ (ek1 hk1 hk2) _ _ hb⟩
 rw[f1];have hnum:(number (man k) kMan).getD 0=(k:Int):=by rw[ay1 hk1 hk2];rfl
 have hhl:=ax2 k;have hh2:d2.ct.hale:=by rw[f2];exact hh
 have hq2:d2.quota=d.quota:=f3.quota;have hm2:=f3.most;have ht2:=f3.total;obtain⟨g1,g2,g3⟩:=Sd.vj2 (b:=headB k) f3.in_ qy f4 (by omega) (by omega) (by omega);obtain⟨g0,g4⟩:=g1.hale hh2;have hp:=g3 g0;have hb2:=g2.now _ (ek1 hk1 hk2) _ _ f5;have k2:zq NR [man k,gq,kCur] d.co (d2.write gq (headB k)).1.co 2 2212:=(f3.trans (g2.mono (fun u hu=>.inl hu) (fun u hu=>by rw[List.mem_singleton.1 hu];simp) (Nat.le_refl _) hhl));unfold Gw.hd;rw[hnum,if_neg (by rw[g0];simp)];generalize (d2.write gq (headB k)).1=d3 at *;have hh3:d3.ct.hale:=by rw[g4];exact hh2
 obtain⟨c1,c2,c3⟩:=Sd.ik2 (d:=d3);rw[hh3.call]at c1 c2 c3;rw[if_pos rfl]at c3;unfold sd1;rw[if_neg (by rw[c1];simp)];have k3:=qq1 k2.in_;have hp3:=Co.Now.ax hp;have hb3:=Co.Now.ax hb2;rw[←c3]at k3 hp3 hb3;generalize (d3.ax).1=d4 at *;have hh4:d4.ct.hale:=by rw[c2];exact hh3
 obtain⟨i,i1,i2,i3,i4⟩:=hp3;obtain⟨r1,r2,r3⟩:=Sd.rj3 qy dv1 iq1.symm i1;rw[hh4.call]at r1 r2 r3;rw[if_pos rfl]at r3;unfold ren;rw[if_neg (by rw[r1];simp)];have k4:zq (fun u=>u=gq∨u=kCur) [gq,kCur] d4.co (d4.co.rename gq kCur) 0 0:=rv2 k3.in_ (by decide) i1;have hc4:=Co.Now.moved k3.in_ (Co.Held.now ⟨i,i1,i2,i3,i4⟩) iq1.symm;have hb4:=Co.Held.rename (a:=gq) (b:=kCur) k3.in_ hb3 (ek1 hk1 hk2) (yx1 hk1 hk2);rw[←r3]at k4 hc4 hb4;generalize (d4.rename gq kCur).1=d5 at *;have hh5:d5.ct.hale:=by rw[r2];exact hh4
 obtain⟨u1,u2⟩:=sv4 (M:=M) hk1 hk2 k4.in_ hc4 (Co.Held.now hb4);obtain⟨u0,u3⟩:=u1.hale hh5
 rcases u2 with ⟨v1,v2,v3,v4,v5,v6⟩|⟨v1,_⟩
 ·refine⟨Prod.ext v2 v1,by rw[u3,r2,c2,g4,f2],?_,v5,v6⟩
  have:=((k2.trans (k3.mono (fun _ h=>h.elim) (fun _ h=>by cases h) (Nat.le_refl _) (Nat.le_refl _))).trans (k4.mono (fun u hu=>hu.elim .inl (fun e=>.inr (.inl e))) (fun u hu=>List.mem_cons_of_mem _ hu) (Nat.le_refl _) (Nat.le_refl _))).trans (v3.mono (fun _ h=>h) (fun _ h=>by cases h) (Nat.le_refl _) (Nat.le_refl _));exact this.mono (fun _ h=>h) (fun _ h=>h) (by omega) (by omega)
 ·exact absurd u0 v1
end Gw
open Mw (kCur gq headB man NR)
theorem eq3 {d:Sd} {s t:List UInt8} {l:Nat} (hs:Sd.named s=true) (hd:d.dead=false) (h:d.co.Now s t l):d.read s=(t,0):=by
 obtain⟨i,g,f⟩:=h;have g':d.names.get s=some i:=g;have f':d.files[i]?=some (t,l):=f;unfold Sd.read;rw[if_neg (by simp[hs]),if_neg (by simp[hd]),g'];simp[List.getD_eq_getElem?_getD,f']
theorem ez4 {d:Sd} {n:Nat} {t:List UInt8} {l lc:Nat} {v:Vw} {k stop:Nat} (hd:d.dead=false) (hn1:1≤n) (hn2:n≤1073741824) (hc:d.co.Now kCur (headB n) lc) (hn:d.co.Now (man n) t l) (hv:Vw.views t=some (v,k,stop)):
  Gw.look d=(some (⟨man n,v,k,false⟩,decide (stop < t.length)||decide (30 < k)),0):=by
 have h1:=eq3 Mw.dv1 hd hc;have h2:=eq3 (Mw.dx1 hn1 hn2) hd hn;have e2:headB n=Fr.put 8 (Pn.put n):=rfl;have e1:=Fr.oq [] 8 (Pn.put n) [] (by omega) (by omega) (by have:=Pn.jv n;omega);simp only[List.nil_append,List.append_nil,List.length_nil,Nat.zero_add]at e1;rw[←e2]at e1;have e3:=Pn.oq n [] (by omega);rw[List.append_nil]at e3;unfold Gw.look;rw[h1,if_neg (by simp)];unfold Gw.wv4;rw[e1,if_neg (by simp)];unfold Gw.xj4;rw[e3,if_neg (by simp;omega)];unfold Gw.lookT;rw[show Mn.name Mn.kMan ((n:Nat):Int)=man n from rfl,h2,if_neg (by simp)];simp only;rw[hv]
end
section
open Go Go.RowKit
open Co
namespace Sd
def kq4 (f f':List UInt8×Nat):Prop:=∃m,f.2≤m∧m≤f.1.length∧f'=(f.1.take m,m)
theorem wj4 (n:Nat) (x:Int):kept n x≤n:=by
 unfold kept;have h1:=Int.emod_nonneg x (show ((n:Int)+1)≠0 by omega);have h2:=Int.emod_lt_of_pos x (show (0:Int) < (n:Int)+1 by omega);omega
theorem cj1:∀(L:List Nat) (fs:List (List UInt8×Nat)) (keep:List Int),(∀f∈fs,f.2≤f.1.length)→(cutFiles L fs keep).1.length=fs.length∧∀(i:Nat) (f:List UInt8×Nat),fs[i]?=some f→∃f',(cutFiles L fs keep).1[i]?=some f'∧(f'=f∨kq4 f f')∧(i∈L→kq4 f f')
 |[],fs,keep,_=>⟨rfl,fun i f h=>⟨f,h,.inl rfl,fun h=>by cases h⟩⟩
 |j::r,fs,keep,hf=>by
  have hcut_self:∀f:List UInt8×Nat,f.2≤f.1.length→f.1.length - f.2=0→kq4 f f:=fun f h1 h2=>⟨f.1.length,h1,Nat.le_refl _,by
   rw[List.take_length];exact Prod.ext rfl (by simp only;omega)⟩
  rw[cutFiles];split
  ·rename_i hn
   obtain⟨h1,h2⟩:=cj1 r fs keep hf;refine⟨h1,fun i f hi=>?_⟩;obtain⟨f',a,b,c⟩:=h2 i f hi;refine⟨f',a,b,fun hm=>?_⟩
   rcases List.mem_cons.1 hm with rfl|hm
   ·rcases b with rfl|b
    ·have hg:fs.getD i ([],0)=f':=by rw[List.getD_eq_getElem?_getD,hi];rfl
     rw[hg]at hn;exact hcut_self f' (hf f' (List.mem_of_getElem? hi)) hn
    ·exact b
   ·exact c hm
  ·rename_i hn
   have hg0:∃g,fs[j]?=some g∧fs.getD j ([],0)=g:=by
    cases hj:fs[j]? with
    |none=>rw[List.getD_eq_getElem?_getD,hj]at hn;simp at hn
    |some g=>exact⟨g,rfl,by rw[List.getD_eq_getElem?_getD,hj];rfl⟩
   obtain⟨g,hj,hg⟩:=hg0;simp only[hg]at hn ⊢;have hgl:=hf g (List.mem_of_getElem? hj);have hk:=wj4 (g.1.length - g.2) (next keep ((g.1.length - g.2:Nat):Int)).1;generalize kept (g.1.length - g.2) (next keep ((g.1.length - g.2:Nat):Int)).1=k at *;have hlt:(g.1.take (g.2+k)).length=g.2+k:=by rw[List.length_take];omega
   rw[hlt];have hf':∀f∈fs.set j (g.1.take (g.2+k),g.2+k),f.2≤f.1.length:=fun f hm=>by
    rcases List.mem_or_eq_of_mem_set hm with h1|h1
    ·exact hf f h1
    ·rw[h1];simp only;omega
   obtain⟨h1,h2⟩:=cj1 r (fs.set j (g.1.take (g.2+k),g.2+k)) (next keep ((g.1.length - g.2:Nat):Int)).2 hf';refine⟨by rw[h1,List.length_set],fun i f hi=>?_⟩;obtain⟨hjl,_⟩:=List.getElem?_eq_some_iff.1 hj
   by_cases hij:j=i
   ·subst hij
    rw[hj]at hi;injection hi with hi;subst hi;obtain⟨f',a,b,_⟩:=h2 j (g.1.take (g.2+k),g.2+k) (by simp[hjl]);have hc:kq4 g f':=by
     rcases b with rfl|⟨m,m1,m2,rfl⟩
     ·exact⟨g.2+k,by omega,by omega,rfl⟩
     ·simp only at m1 m2
      rw[hlt]at m2;refine⟨g.2+k,by omega,by omega,?_⟩;have e:m=g.2+k:=by omega
      rw[e,List.take_take,Nat.min_self]
    exact⟨f',a,.inr hc,fun _=>hc⟩
   ·obtain⟨f',a,b,c⟩:=h2 i f (by rw[List.getElem?_set_ne hij];exact hi)
    refine⟨f',a,b,fun hm=>?_⟩
    rcases List.mem_cons.1 hm with h|hm
    ·exact absurd h.symm hij
    ·exact c hm
theorem iv1:∀(us:List Tn) (m:Nm) (keep:List Int),∃vs:List Tn,vs.Sublist us∧doTurns us m keep=vs.foldl (fun m u=>u.go m) m
 |[],m,_=>⟨[],List.Sublist.refl _,rfl⟩
 |u::r,m,keep=>by
  rw[doTurns]
  by_cases h:(next keep 0).1 % 2=0
  ·simp only[h,if_true]
   obtain⟨vs,a,b⟩:=iv1 r (u.go m) (next keep 0).2;exact⟨u::vs,a.cons_cons u,b⟩
  ·simp only[h,if_false]
   obtain⟨vs,a,b⟩:=iv1 r m (next keep 0).2;exact⟨vs,a.cons u,b⟩
variable {d:Sd}
theorem dz3 (hw:d.Wf) (hi:d.co.In) (keep:List Int):Cr d.co (d.xk keep).co:=by
 have hf:∀f∈d.files,f.2≤f.1.length:=fun f hm=>by
  obtain⟨i,hi,rfl⟩:=List.getElem_of_mem hm;exact(hw.file i hi).1
 obtain⟨h1,h2⟩:=cj1 d.led d.files keep hf;obtain⟨vs,v1,v2⟩:=iv1 d.turns d.lasted (cutFiles d.led d.files keep).2;refine⟨rfl,rfl,rfl,⟨vs,v1,v2⟩,h1,fun i f hif=>?_⟩;obtain⟨f',a,b,c⟩:=h2 i f hif;refine⟨f',a,?_,fun hn hl=>?_⟩
 ·rcases b with rfl|⟨m,m1,m2,rfl⟩
  ·exact Nat.le_refl _
  ·simp only[List.length_take];omega
 ·obtain⟨p,hp,rfl⟩:=hn
  have hled:p.2∈d.led:=by
   have hlt:p.2 < d.files.length:=(List.getElem?_eq_some_iff.1 hif).1;unfold led;refine List.mem_filter.2 ⟨List.mem_range.2 hlt,?_⟩;have hp':p∈doTurns d.turns d.lasted (cutFiles d.led d.files keep).2:=hp;rw[v2]at hp';unfold aw1
   rcases jz3 hp' with h3|⟨q,hq,e⟩
   ·have h4:=(mj2 v1).subset h3
    unfold made at h4;obtain⟨t,ht,e⟩:=List.mem_map.1 h4;obtain⟨ht1,ht2⟩:=List.mem_filter.1 ht;have:(d.turns.any fun t=>decide (t.kind=1) &&decide (t.file=p.2))=true:=by
     rw[List.any_eq_true];exact⟨t,ht1,by simp only[decide_eq_true_eq]at ht2;simp[ht2,e]⟩
    rw[this];rfl
   ·have:(d.lasted.any fun x=>decide (x.2=p.2))=true:=by
     rw[List.any_eq_true];exact⟨q,hq,by simp[e]⟩
    rw[this];simp
  exact c hled
theorem gq3 (hw:d.Wf) (hi:d.co.In) (hm:d.co.most≤64) (keep:List Int):(d.xk keep).Wf:=by
 have hc:=dz3 hw hi keep;have hin:=hc.in_ hi;have hml:=(hc.zw3 hi).2;obtain⟨vs,v1,v2⟩:=iv1 d.turns d.lasted (cutFiles d.led d.files keep).2;have hg:∀p∈(d.xk keep).names,named p.1=true:=by
  have key:∀(us:List Tn) (m:Nm),(∀p∈m,named p.1=true)→(∀t∈us,named t.a=true∧(t.kind=2→named t.b=true))→∀p∈us.foldl (fun m u=>u.go m) m,named p.1=true:=by
   intro us
   induction us with
   |nil=>intro m h _;exact h
   |cons u r ih=>intro m h ht;exact ih _ (ez3 h u (ht u (by simp))) (fun t htr=>ht t (by simp[htr]))
  intro p hp;have hp':p∈doTurns d.turns d.lasted (cutFiles d.led d.files keep).2:=hp;rw[v2]at hp';exact key vs d.lasted hw.glasted (fun t ht=>⟨(hw.gturns t (v1.subset ht)).1,(hw.gturns t (v1.subset ht)).2.1⟩) p hp'
 refine⟨hw.quota,fun i h=>?_,hin.lead,hin.lead,hin.apart,hin.apart,Nat.le_trans hml hm,fun t ht=>(by cases ht),hg,hg,fun t ht=>(by cases ht),Nat.zero_le _,Nat.zero_le _⟩;have hf:∀f∈d.files,f.2≤f.1.length:=fun f hmem=>by
  obtain⟨i,hi,rfl⟩:=List.getElem_of_mem hmem;exact(hw.file i hi).1
 obtain⟨h1,h2⟩:=cj1 d.led d.files keep hf;have hid:i < d.files.length:=by
  have:(cutFiles d.led d.files keep).1.length=(d.xk keep).files.length:=rfl;omega
 obtain⟨f',a,b,_⟩:=h2 i d.files[i] (List.getElem?_eq_getElem hid);have e:(d.xk keep).files[i]=f':=by
  have a':(d.xk keep).files[i]?=some f':=a;rw[List.getElem?_eq_getElem h]at a';exact Option.some.inj a'
 rw[e];have:=hw.file i hid
 rcases b with rfl|⟨m,m1,m2,rfl⟩
 ·exact this
 ·simp only[List.length_take];omega
theorem py3 (hw:d.Wf) (keep:List Int):(d.xk keep).load≤d.load:=by
 have hf:∀f∈d.files,f.2≤f.1.length:=fun f hmem=>by
  obtain⟨i,hi,rfl⟩:=List.getElem_of_mem hmem;exact(hw.file i hi).1
 have h1:=(cj1 d.led d.files keep hf).1;unfold load;have e1:(d.xk keep).files.length=d.files.length:=h1;have e2:(d.xk keep).turns.length=0:=rfl;omega
end Sd
end
section
open Go Go.RowKit Go.Lib Go.Shelf
namespace Lg
def good1 (p:Nat×List UInt8):Bool:=(decide ((It.read p.2).2=0) &&decide (p.1=1)) &&decide ((It.read p.2).1≠[])
def rows (l:List (Nat×List UInt8)):List (List It):=l.map fun p=>(It.read p.2).1
def replay (b:List UInt8):List (List It)×Nat×Nat:=
 if (Fr.split b).2.2.2≠0∧(Fr.split b).2.2.2≠4 then ([],0,9) else
 if ((Fr.split b).1.zip (Fr.split b).2.1).all good1=true then (rows ((Fr.split b).1.zip (Fr.split b).2.1),(Fr.split b).2.2.1,0) else ([],0,9)
theorem vq3 {l:List (Nat×List UInt8)} {k:Nat} (h:k < l.length):rows (l.take (k+1))=rows (l.take k)++[(It.read l[k].2).1]:=by
 rw[←List.take_append_getElem h];simp only[rows,List.map_append,List.map_cons,List.map_nil]
theorem my2 {l:List (Nat×List UInt8)} {k:Nat} (h:k < l.length):(l.take (k+1)).all good1=((l.take k).all good1&&good1 l[k]):=by
 rw[←List.take_append_getElem h,List.all_append];simp only[List.all_cons,List.all_nil,Bool.and_true]
theorem vv4 {l:List (Nat×List UInt8)} {k:Nat} (h:k < l.length) (hg:good1 l[k]=false):¬l.all good1=true:=fun ha=>by
 have:=List.all_eq_true.1 ha _ (List.getElem_mem h);rw[hg]at this
 cases this
end Lg
theorem tv1.low {b b':Nat} {no:Option Nat} {w:World} {ls:List (List It)} {vs:List Value} (h:tv1 b no w ls vs) (hb:b'≤b):tv1 b' none w ls vs:=
 ⟨h.1,fun i hi=>let ⟨A,k,c,h1,h2,h3,h4,h5⟩:=h.2 i hi;⟨A,k,c,h1,h2,h3,h4,fun a ha=>⟨Nat.le_trans hb (h5 a ha).1,(h5 a ha).2.1,by simp⟩⟩⟩
def HNew (b:Nat) (w:World) (A:Option Addr) (n c:Nat) (ls:List (List It)):Prop:=n=ls.length∧n≤c∧c≤maxLen∧(∀a,A=some a→b≤a.block)∧∃vs,Row w.heap.size w A n 1 vs∧tv1 b none w ls vs
theorem HNew.chg {b n c:Nat} {w w':World} {A:Option Addr} {ls:List (List It)} {F:List Nat} (h:HNew b w A n c ls) (k:Chg F w w') (hF:∀g∈F,g < b):HNew b w' A n c ls:=by
 obtain⟨h1,h2,h3,h4,vs,h5,h6⟩:=h;exact⟨h1,h2,h3,h4,vs,(k.row h5 (Nat.le_refl _) (fun a ha hm=>by have:=hF _ hm;have:=h4 a ha;omega)).up k.size,h6.step k.size (fun g g1 g2 _=>k.block g g2 (fun hm=>by have:=hF _ hm;omega)) (fun _ _ h=>h)⟩
theorem HNew.below {b n c:Nat} {w w':World} {A:Option Addr} {ls:List (List It)} (h:HNew b w A n c ls) (k:Below w.heap.size w w'):HNew b w' A n c ls:=h.chg (F:=[]) (Chg.of_below k []) (fun _ hg=>by cases hg)
theorem mv4 {base:Nat} {w:World} {gk gb n kc bc:Nat} {ks:List Nat} {bs:List (List UInt8)} (h:Bods base w (.slice (some ⟨gk,0,none⟩) n kc) (.slice (some ⟨gb,0,none⟩) n bc) ks bs) (hl:ks.length=bs.length) {k:Nat} (hk:k < bs.length):
  ∃x A M c,ks[k]?=some x∧w.cell? ⟨gk,k,none⟩=some (.int .i64 (x:Int))∧w.cell? ⟨gb,k,none⟩=some (.slice A M c)∧M≤c∧c≤maxLen∧Row w.heap.size w A M 1 (bts bs[k]):=by
 obtain⟨vs,hv,hx⟩:=h.row;obtain⟨A,M,c,e,h1,h2,h3,_⟩:=hx k hk;have hki:=h.kinds;have hxk:ks[k]?=some ks[k]:=List.getElem?_eq_getElem (by omega);have c1:=hki.cells (g:=gk) rfl k (.int .i64 ((ks[k]:Nat):Int)) (by simp[i64v,hxk]);have c2:=hv.cells (g:=gb) rfl k _ e;rw[mx2]at c1 c2;exact⟨ks[k],A,M,c,hxk,c1,c2,h1,h2,h3⟩
def my1 (w:World) (R:List (List It)×Nat×Nat) (e:Ending) (w':World):Prop:=∃A n c,e=.returned (.tuple #[.slice A n c,.int .i64 (R.2.1:Int),.int .i64 (R.2.2:Int)])∧HNew w.heap.size w' A n c R.1∧Below w.heap.size w w'
theorem HNew.nil (b:Nat) (w:World):HNew b w none 0 0 []:=⟨rfl,Nat.le_refl _,by unfold maxLen;omega,(fun a h=>by cases h),[],Row.nil_,⟨rfl,fun i h=>absurd h (by simp)⟩⟩
theorem my1.bad {w w':World} {R:List (List It)×Nat×Nat} (hR:R=([],0,9)) (hb:Below w.heap.size w w'):my1 w R (.returned (.tuple #[.slice none 0 0,.int .i64 0,.int .i64 9])) w':=by
 subst hR;exact⟨none,0,0,rfl,HNew.nil _ _,hb⟩
theorem qk3 (A:Option Addr) (N c0:Nat) (t:List UInt8) (w:World) (hN:N≤1000000) (hNc:N≤c0) (hc:c0≤maxLen) (hr:Row w.heap.size w A N 1 (bts t)):
  Calls Tryz.prog 158 #[.slice A N c0] w (my1 w (Lg.replay t)):=by
 obtain⟨i0,hi0,hz0,hz1,hz2⟩:=info_parts sk3;have hsp:=ry2 A N c0 t w (by omega) hNc hc hr;have hsame:=Fr.iv2 t;have hlen:=Fr.vv2 t;have hmany:=Fr.gk2 t;have hbl:=hr.yz;have hrep:Lg.replay t=if (Fr.split t).2.2.2≠0∧(Fr.split t).2.2.2≠4 then ([],0,9) else if ((Fr.split t).1.zip (Fr.split t).2.1).all Lg.good1=true then (Lg.rows ((Fr.split t).1.zip (Fr.split t).2.1),(Fr.split t).2.2.1,0) else ([],0,9):=rfl
 generalize Lg.replay t=R at *;generalize Fr.split t=sp at *;obtain⟨ks,bs,stop,er⟩:=sp;simp only at hsp hsame hlen hrep hmany;have HSP:=Lib.hid hsp;have HLEN:=Lib.hid hlen;have HREP:=Lib.hid hrep;clear hsp hlen hrep hr;go_enter Tryz.func158,Tryz.ntmps158;go_wp2_with fail;refine HSP.out.mono ?_;rintro e w1 ⟨kv,bv,rfl,hbods,hb1⟩;clear HSP;obtain⟨vs0,hvs,-⟩:=hbods.row;obtain⟨Ak,kc,hkv,-⟩:=ay hbods.kinds;obtain⟨Ab,bc,hbv,-⟩:=ay hvs;subst hkv hbv;rw[hsame]at hbods ⊢;obtain⟨n,hn⟩:∃n,bs.length=n:=⟨_,rfl⟩;rw[hn]at hbods hmany ⊢;have hnN:n *12≤N:=by omega
 clear hvs
 by_cases her:er≠0∧er≠4
 ·have e1:((er:Int)==0)=false:=by simp;omega
  have e2:((er:Int)==4)=false:=by simp;omega
  have e3:((er:Int) !=0)=true:=by simp;omega
  have e4:((er:Int) !=4)=true:=by simp;omega
  have HB:=Lib.hid (my1.bad (HREP.out.trans (if_pos her)) hb1);clear her hbods HREP HLEN hb1;go_wp2;refine bodyPost_ret (v:=.tuple #[.slice none 0 0,.int .i64 0,.int .i64 9]) (by simp[results,go_sem]) rfl HB.out
 have hRv:=HREP.out.trans (if_neg her);obtain⟨Z,hZ⟩:∃Z,Z=ks.zip bs:=⟨_,rfl⟩;rw[←hZ]at hRv;have hZn:Z.length=n:=by rw[hZ,List.length_zip];omega
 have her':er=0∨er=4:=by omega
 have HRV:=Lib.hid hRv;have HZZ:=Lib.hid hZ;clear hRv hZ HREP her
 rcases her' with rfl|rfl
 all_goals
  go_wp2
  go_loopw [2,3,26] (fun lv st i wr=>∃(k:Nat) (v:Value) (vs:List Value) (ls:List (List It)),k≤n∧lv=v∧st=.int .i64 (stop:Int)∧i=.int .i64 (k:Int)∧Hid (ls.length=k∧ls=Lg.rows (Z.take k)∧(Z.take k).all Lg.good1=true)∧wr.ownsRow w1.heap.size 31 1 v k vs∧tv1 w1.heap.size v.ownBlock wr ls vs∧Below w1.heap.size w1 wr) (fun _ _ i _=>n - (intOf i).toNat)
  case atStart=>exact⟨0,_,[],[],Nat.zero_le _,rfl,rfl,rfl,Lib.hid ⟨rfl,rfl,rfl⟩,World.ownsRow_nil _ _ _ _,⟨rfl,fun i h=>absurd h (by simp)⟩,Below.refl _ _⟩
  case round=>
   obtain⟨k,v,vs,ls,hk,rfl,rfl,rfl,HI,hown,hrows,hbl1⟩:=hrel;obtain⟨A0,c0',hv0,hnc0,hcm0,-⟩:=ay hown;subst hv0
   by_cases hlt:k < n
   ·have hbodr:=hbods.below hbl1
    obtain⟨gk,gb,kc',bc',ek,eb⟩:=wj2 hbodr hsame (by omega);rw[hn]at ek eb;injection ek with ek _ ek2;injection eb with eb _ eb2;subst ek ek2 eb eb2;obtain⟨x,Ab,Mb,cb,hxk,d1,d2,hMb,hcb,hrow⟩:=mv4 hbodr hsame (k:=k) (by omega);have hkl:k < bs.length:=by omega
    have hzk:Z[k]'(by omega)=(x,bs[k]):=by
     have hx:=List.getElem?_eq_some_iff.1 hxk;simp only[HZZ.out,List.getElem_zip,hx.2]
    have hrt:=Lg.vq3 (l:=Z) (k:=k) (by omega);have hat:=Lg.my2 (l:=Z) (k:=k) (by omega);have hno:Lg.good1 (Z[k]'(by omega))=false→¬Z.all Lg.good1=true:=Lg.vv4 (l:=Z) (k:=k) (by omega);rw[hzk]at hrt hat hno;have hlen1:=HLEN.out bs[k] (List.getElem_mem hkl);have hMl:=hrow.yz;have hird:=yv3 Ab Mb cb bs[k] wr (by omega) hMb hcb hrow;have hg1:Lg.good1 (x,bs[k])=((decide ((It.read bs[k]).2=0) &&decide (x=1)) &&decide ((It.read bs[k]).1≠[])):=rfl;generalize Lg.good1 (x,bs[k])=gd at *;simp only at hrt;generalize It.read bs[k]=T at *;obtain⟨l,er1⟩:=T;simp only at hrt hg1;have HIRD:=Lib.hid hird;have HNO:=Lib.hid hno;have HST:=Lib.hid (And.intro hrt (And.intro hat hg1));clear hird hno hrt hat hg1 hzk hxk hlen1 hMl hrow hkl hbodr hMb hcb;go_wp2_with fail;refine HIRD.out.mono ?_;rintro e w2 ⟨A1,k1,c1,rfl,hk1,hit,hb2⟩;simp only at hk1 hit;have HK1:=Lib.hid hk1;clear hk1;have d3:w2.cell? ⟨gk,k,none⟩=some (.int .i64 (x:Int)):=(World.cell?_of_block (hb2.block gk (lt_of_cell d1))).trans d1;have hbad:gd=false→Hid (my1 w R (.returned (.tuple #[.slice none 0 0,.int .i64 0,.int .i64 9])) w2):=fun h=>Lib.hid (my1.bad (HRV.out.trans (if_neg (HNO.out h))) (az (az hb1 hbl1) hb2));clear d1 d2 HIRD HNO
    by_cases q1:er1=0
    case neg=>
     have e1:((er1:Int) !=0)=true:=by simp;omega
     have HB:=hbad (by rw[HST.out.2.2];simp[q1]);clear hbad hit HST HI hown hrows q1;go_wp2;refine bodyPost_ret (v:=.tuple #[.slice none 0 0,.int .i64 0,.int .i64 9]) (by simp[results,go_sem]) rfl HB.out
    subst q1
    by_cases q2:x=1
    case neg=>
     have e1:((x:Int) !=1)=true:=by simp;omega
     have e2:((x:Int)==1)=false:=by simp;omega
     have HB:=hbad (by rw[HST.out.2.2];simp[q2]);clear hbad hit HST HI hown hrows q2;go_wp2;refine bodyPost_ret (v:=.tuple #[.slice none 0 0,.int .i64 0,.int .i64 9]) (by simp[results,go_sem]) rfl HB.out
    subst q2
    by_cases q3:k1=0
    ·subst q3
     have HB:=hbad (by rw[HST.out.2.2];simp[List.eq_nil_of_length_eq_zero HK1.out.symm]);clear hbad hit HST HI hown hrows;go_wp2;refine bodyPost_ret (v:=.tuple #[.slice none 0 0,.int .i64 0,.int .i64 9]) (by simp[results,go_sem]) rfl HB.out
    have e3:((k1:Int)==0)=false:=by simp;omega
    have hgd:gd=true:=by
     rw[HST.out.2.2];have:l≠[]:=fun e=>q3 (by rw[HK1.out,e];rfl);simp[this]
    obtain⟨a1,rfl,ha1⟩:∃a,A1=some a∧a.block < w2.heap.size:=by
     obtain⟨a,e1,e2⟩:=hit.row.some_ (by rw[ik];have:=HK1.out;omega);exact⟨a,e1,e2⟩
    have hl1:=hit.low a1 rfl;have hvb:∀g,(Value.slice A0 k c0').ownBlock=some g→g < wr.heap.size:=fun g hg=>(hown.lt g hg).2;have hrows1:tv1 w1.heap.size (Value.slice A0 k c0').ownBlock w2 (ls++[l]) (vs++[.slice (some a1) k1 c1]):=by
     have h1:=hrows.step (no':=(Value.slice A0 k c0').ownBlock) hb2.size (fun g _ h5 _=>hb2.block g h5) (fun g _ h=>h);refine h1.snoc hit.nc hit.cm hit.row (fun a ha=>?_);injection ha with ha;subst ha;refine⟨by have:=hbl1.size;omega,ha1,fun e=>?_⟩;have:=hvb _ e.symm;omega
    have hbw2:=az hbl1 hb2;have hown1:=(own_below hown hb2).alloc (.cells #[.slice (some a1) k1 c1] 31);have hbw3:=hbw2.alloc hbw2.size (.cells #[.slice (some a1) k1 c1] 31);have HR1:=Lib.hid hrows1;have HBW:=Lib.hid hbw3;have HO1:=Lib.hid hown1;have HVB:=Lib.hid (And.intro hvb (And.intro hgd hb2.size));have hle2:w1.heap.size≤(w2.alloc (.cells #[.slice (some a1) k1 c1] 31)).heap.size:=hbw3.size;clear hrows1 hbw3 hown1 hvb hgd hbad hit hrows hown hbw2 hb2;go_upto_region 10 with (fail)
    go_wp2_with (at_builtin;refine jq ?_);refine gy (xq rfl (.tmp 50) (.tmp 52) _ rfl w1.heap.size 31 i0 _ 1 24 Tryz.underlying44 hi0 hz0 hz1 hz2 rfl (by omega) w1 HBW.out hle2 (.slice A0 k c0') k vs rfl HO1.out _ (some ⟨w2.heap.size,0,none⟩) 1 1 (by omega) [.slice (some a1) k1 c1] rfl (Row.new w2 #[.slice (some a1) k1 c1] 31 rfl) (by simp[Value.oneCell']) (k+1) _ rfl rfl (by unfold maxLen;omega) (by omega) ?_);intro A4 c4 w3 hown4 hb4 hg4 _ _ hat4;have HG:=Lib.hid (And.intro hown4 (And.intro hb4 (And.intro hg4 hat4)));clear hown4 hb4 hg4 hat4;go_wp2;go_roundw
    case rel=>
     obtain⟨p1,p2,p3,p4⟩:=HG.out;have hrw:=HR1.out.step (no':=(Value.slice A4 (k+1) c4).ownBlock) (w':=w3)
      (by have:=p3.size;rw[World.size_alloc]at this;omega)
      (fun g g1 g2 g3=>by rw[p3.block g (by rw[World.size_alloc];omega) g3,Below.heap_alloc _ _ g g2])
      (fun g g1 g2=>by
       rcases p4 with h|h
       ·rw[h];exact g2
       ·rw[h,World.size_alloc]
        intro e;injection e with e;omega)
     refine⟨k+1,_,_,ls++[l],by omega,rfl,rfl,by go_num,Lib.hid ⟨by rw[List.length_append,HI.out.1];rfl,?_,?_⟩,p1,hrw,p2⟩
     ·rw[HST.out.1,←HI.out.2.1]
     ·rw[HST.out.2.1,HI.out.2.2,HVB.out.2.1]
      rfl
    case measure=>simp[intOf];omega
   ·obtain rfl:k=n:=by omega
    have hfin:my1 w R (.returned (.tuple #[.slice A0 k c0',.int .i64 (stop:Int),.int .i64 0])) wr:=by
     obtain⟨p1,p2,p3⟩:=HI.out;rw[List.take_of_length_le (by omega)]at p2 p3;rw[HRV.out,if_pos p3];exact⟨A0,k,c0',rfl,⟨by rw[←p2];exact p1.symm,hnc0,hcm0,fun a ha=>by subst ha;exact Nat.le_trans hb1.size (hown.lt _ rfl).1,vs,Row.own hown,by rw[←p2];exact hrows.low hb1.size⟩,az hb1 hbl1⟩
    have HF:=Lib.hid hfin;clear hfin hown hrows HI;go_wp2;refine bodyPost_ret (v:=.tuple #[.slice A0 k c0',.int .i64 (stop:Int),.int .i64 0]) (by simp[results,go_sem]) rfl HF.out
def yj3 (X:Dw) (nm:List UInt8) (w:World) (ls:List (List It)) (stop:Nat) (e:Ending) (w':World):Prop:=∃g A n c,e=.returned (.tuple #[.pointer (some ⟨g,0,none⟩),.slice A n c,.bool true,.int .i64 0])∧LgAt w' g X.d nm stop ls.length∧w.heap.size≤g∧HNew w.heap.size w' A n c ls∧Below w.heap.size w w'
theorem zq3 {X:Dw} {S:Sd} {w:World} (h:Dm w X S) (nm:List UInt8) (hnl:nm.length≤1000) (t:List UInt8) (ls:List (List It)) (hrd:S.read nm=(t,0)) (hrp:Lg.replay t=(ls,t.length,0)):
  Calls Tryz.prog 82 #[.pointer (some ⟨X.d,0,none⟩),.string (str nm)] w (yj3 X nm w ls t.length):=by
 have hl:=Sd.iw2 h.wf nm;have hr1:=vq1 X S (str nm) (by rw[qx];unfold maxLen;omega) h.wf w h.dk;rw[rq,hrd]at hr1;rw[hrd]at hl;simp only at hr1 hl;have HRD:=Lib.hid hr1;have HRP:=Lib.hid hrp;clear hr1 hrp hrd h;go_enter Tryz.func82,Tryz.ntmps82;go_wp2_with fail;refine HRD.out.mono ?_;rintro e w1 ⟨A1,c1,rfl,hown1,hb1⟩;have hcap1:t.length≤c1∧c1≤maxLen:=by
  obtain⟨A',c',e,h1,h2,_⟩:=ay hown1;injection e with _ e2 e3;omega
 have hrp:=qk3 A1 t.length c1 t w1 (by omega) hcap1.1 hcap1.2 (Row.own hown1);rw[HRP.out]at hrp;have HRL:=Lib.hid hrp;clear hrp hown1 HRD HRP;go_wp2_with fail;refine HRL.out.mono ?_;rintro e w2 ⟨A2,n2,c2,rfl,hn2,hb2⟩;have hb12:=az hb1 hb2;have hbA:=(Below.refl w2.heap.size w2).alloc (Nat.le_refl _) (.cells #[.pointer (some ⟨X.d,0,none⟩),.string (str nm),.int .i64 (t.length:Int),.int .i64 0,.bool false] 233);have hbx:=BoxO.new w2 #[.pointer (some ⟨X.d,0,none⟩),.string (str nm),.int .i64 (t.length:Int),.int .i64 0,.bool false] 233;have c3:=hbx.cell 3;have f3:=hbx.free 3;have hst:=hbx.store 3 (.int .i64 (n2:Int));simp only[gE0,gE1,List.set]at c3 hst;have HAS:=Lib.hid (mw1 w2.heap.size 3 0 (n2:Int) _ c3 f3);have hbz:Below w2.heap.size w2 ((w2.alloc (.cells #[.pointer (some ⟨X.d,0,none⟩),.string (str nm),.int .i64 (t.length:Int),.int .i64 0,.bool false] 233)).setCell ⟨w2.heap.size,3,none⟩ (.int .i64 (n2:Int))):=hbA.setCell (Nat.le_refl _) _;have s4:=hst.cell 4;simp only[gE0,gE1]at s4;obtain⟨U,hU⟩:∃U,U=(w2.alloc (.cells #[.pointer (some ⟨X.d,0,none⟩),.string (str nm),.int .i64 (t.length:Int),.int .i64 0,.bool false] 233)).setCell ⟨w2.heap.size,3,none⟩ (.int .i64 (n2:Int)):=⟨_,rfl⟩;rw[←hU]at hst hbz s4 HAS;have hfin:∀W,Below U.heap.size U W→yj3 X nm w ls t.length (.returned (.tuple #[.pointer (some ⟨w2.heap.size,0,none⟩),.slice A2 n2 c2,.bool true,.int .i64 0])) W:=fun W hW=>by
  have hn:=hn2.1;simp only at hn;have hbz2:=az hbz hW;refine⟨w2.heap.size,A2,n2,c2,rfl,by rw[←hn];exact hst.below hW,Nat.le_trans hb1.size hb2.size,?_,az hb12 hbz2⟩;obtain⟨z1,z2,z3,z4,vs,z5,z6⟩:=hn2.below hbz2;exact⟨z1,z2,z3,fun a ha=>Nat.le_trans hb1.size (z4 a ha),vs,z5,z6.low hb1.size⟩
 have HF:=Lib.hid hfin;clear hfin hbz hst hbx hbA hn2 hb12 hb2 hb1 HRL;go_wp2_with fail;refine HAS.out.mono ?_;rintro e w3 ⟨rfl,rfl⟩;clear HAS c3 f3 hU;go_upto_region 11 with (fail)
 go_quiet (fail)
 go_wp2;refine bodyPost_ret (v:=.tuple #[.pointer (some ⟨w2.heap.size,0,none⟩),.slice A2 n2 c2,.bool true,.int .i64 0]) (by simp[results,go_sem]) rfl ?_;exact HF.out _ (below_drewN (Below.refl _ _) nq)
end
section
open Go
section
variable {P:Program} {ops:Array Oper} {Q:Exit→Act→World→Prop} {md:Region.Mode}
theorem oj1 {L:Array Bool} {i:Nat}:i∈Region.ready md ops L↔i < ops.size∧L.getD i true=false∧((ops[i]?).map (·.after.all fun e=>!Region.binds md e||L.getD e.on false)).getD false=true:=by
 unfold Region.ready;rw[List.mem_filter,List.mem_range];simp
theorem count_set {l:List Bool} {i:Nat} (h:l[i]?=some false):(l.set i true).count false+1=l.count false:=by
 induction l generalizing i with
 |nil=>simp at h
 |cons b l ih=>
  cases i with
  |zero=>
   simp at h;subst h;simp
  |succ i=>
   have:=ih (i:=i) (by simpa using h);simp only[List.set_cons_succ,List.count_cons];omega
theorem pk2 (J:Array Bool→Act→World→Prop)
  (hs:∀L a w i,L.size=ops.size→J L a w→i∈Region.ready md ops L→wpOp P ops Q i (fun a' w'=>J (L.setIfInBounds i true) a' w') a w)
  (he:∀L a w,L.size=ops.size→J L a w→Region.ready md ops L=[]→Q .normal a w):
  ∀(n:Nat) (L:Array Bool) (a:Act) (w:World),L.size=ops.size→L.toList.count false≤n→J L a w→wpAny P md ops Q n L a w
 |0,L,a,w,hz,hc,hJ=>by
  have h0:Region.ready md ops L=[]:=by
   refine List.eq_nil_iff_forall_not_mem.2 fun i hi=>?_;obtain⟨h1,h2,_⟩:=oj1.1 hi;have h3:L.toList[i]?=some false:=by
    have h4:i < L.size:=by omega
    rw[Array.getD_eq_getD_getElem?,Array.getElem?_eq_getElem h4]at h2;rw[Array.getElem?_toList,Array.getElem?_eq_getElem h4];simpa using h2
   have:=count_set h3;omega
  exact⟨h0,he L a w hz hJ h0⟩
 |n+1,L,a,w,hz,hc,hJ=>by
  refine⟨fun h0=>he L a w hz hJ h0,fun i hi=>?_⟩;refine wpOp_mono (fun a' w' hJ'=>?_) (hs L a w i hz hJ hi);obtain⟨h1,h2,_⟩:=oj1.1 hi;have h3:L.toList[i]?=some false:=by
   have h4:i < L.size:=by omega
   rw[Array.getD_eq_getD_getElem?,Array.getElem?_eq_getElem h4]at h2;rw[Array.getElem?_toList,Array.getElem?_eq_getElem h4];simpa using h2
  have:=count_set h3;exact pk2 J hs he n _ a' w' (by simpa using hz) (by simp only[Array.toList_setIfInBounds];omega) hJ'
theorem eq2 (hb:((List.range ops.size).all fun i=>((ops[i]?).map (·.after.all fun e=>decide (e.on < i))).getD false)=true) {L:Array Bool} (hz:L.size=ops.size) (h:Region.ready md ops L=[]):∀(n i:Nat),i < n→i < ops.size→L.getD i false=true
 |0,i,h1,_=>by omega
 |n+1,i,h1,h2=>by
  have ih:=eq2 hb hz h n;have hi:i∉Region.ready md ops L:=by rw[h];exact List.not_mem_nil
  rw[oj1]at hi;have hL:i < L.size:=by omega
  cases hv:L.getD i false with
  |true=>rfl
  |false=>
   exfalso;refine hi ⟨h2,?_,?_⟩
   ·rw[Array.getD_eq_getD_getElem?,Array.getElem?_eq_getElem hL]at hv ⊢
    simpa using hv
   ·have hq:=List.all_eq_true.1 hb i (List.mem_range.2 h2)
    rw[Array.getElem?_eq_getElem h2]at hq ⊢;simp only[Option.map_some,Option.getD_some,Array.all_eq_true,decide_eq_true_eq]at hq ⊢;intro k hk;have:=hq k hk;rw[ih _ (by omega) (by omega)];simp
theorem iy2 {id:Nat} {a:Act} {w:World} (hm:P.follows .mixedOrders=true) (J:Array Bool→Act→World→Prop)
  (h0:J (Array.replicate ops.size false) a w.drew)
  (hs:∀L a w i,L.size=ops.size→J L a w→i∈Region.ready .any ops L→wpOp P ops Q i (fun a' w'=>J (L.setIfInBounds i true) a' w') a w)
  (he:∀L a w,L.size=ops.size→J L a w→Region.ready .any ops L=[]→Q .normal a w):(Code.region id ops true).wp P Q a w:=
 wp_region_any hm (pk2 J hs he _ _ _ _ (by simp) (by simp) h0)
end
end
section
open Go Go.RowKit Go.Maps
theorem iq3 (nb:Nat) (M:Nm) (i:Nat) (p:Addr) (w:World) (hM:qj w nb M.length M) (hp:w.cell? p=some (.int .i64 (i:Int))):
  Calls Tryz.prog 127 #[.map (some nb),.pointer (some p)] w fun e w'=>e=.returned (.bool (M.any fun q=>decide (q.2=i)))∧Below w.heap.size w w':=by
 have hplt:=World.block_lt_of_cell? w _ hp;obtain⟨es,hes0,hpw,hkl⟩:=hM.entries jj1;have hes:es=M.map Nm.lit1:=by
  unfold Nm.enc at hes0;injection hes0 with hes0;exact hes0.symm
 clear hes0;have HES:=Lib.hid hes;clear hes;obtain⟨m,hm⟩:∃m,m=Nm.enc M:=⟨_,rfl⟩;have hown:w.ownsMap Tryz.prog 9 (plainElem (H:=Unit) Tryz.prog 3) nb M.length m:=by rw[hm];exact hM
 have HMN:=Lib.hid hm;clear hm hM;obtain⟨R,hR⟩:∃R,R=M.any fun q=>decide (q.2=i):=⟨_,rfl⟩;rw[←hR];have HR:=Lib.hid hR;clear hR;go_enter Tryz.func127,Tryz.ntmps127;go_wp2_with (first
  |(at_range;refine wpList_range_own _ rfl _ 90 rfl 9 3 jj1 Tryz.underlying90 _ nb _ m rfl hown ?_;intro w0 hrg0 hg0 hs0)
  |go_in)
 go_frame
 have hb0:Below w.heap.size w w0:=(Below.refl _ _).grown hg0 (Nat.le_refl _) (fun k hk=>by cases hk)
 go_loopw [3] (fun s wr=>∃(left:Lit→Bool) (cnt:Nat),Hid (∀q∈M,left (.string q.1)=false→q.2≠i)∧wr.ranges Tryz.prog 9 (plainElem (H:=Unit) Tryz.prog 3) nb w.heap.size M.length m left cnt∧Below w.heap.size w wr) (fun _ wr=>wr.rangeLeft nb w.heap.size)
 case atStart=>
  refine⟨_,_,Lib.hid (fun q hq hl=>?_),hrg0,hb0⟩;exfalso;rw[show m=_ from HMN.out]at hl;have h1:Maps.has (Nm.enc M) (.string q.1)=true:=by
   show (M.map Nm.lit1).any (fun p=>p.1.sameKey (.string q.1))=true
   rw[List.any_eq_true];exact⟨_,List.mem_map.2 ⟨q,hq,rfl⟩,WideAt.sameKey_self (hkl (Nm.lit1 q) (by rw[show es=_ from HES.out];exact List.mem_map.2 ⟨q,hq,rfl⟩))⟩
  rw[h1]at hl
  cases hl
 case round=>
  obtain⟨left,cnt,hno,hrg,hb⟩:=hrel;go_wp2_with (first
   |(at_next;refine wpList_next_ranges _ rfl _ rfl 9 jj1 _ Value.string (Value.int .i64) ?invK ?invV nb w.heap.size _ m left cnt rfl hrg ?hDone ?hMore)
   |go_in)
  case invK=>exact fun key kl hk=>by obtain⟨s,rfl,_⟩:=xw hk;exact⟨s,rfl⟩
  case invV=>exact fun v y hv=>by obtain⟨c,rfl,_⟩:=plainElem_int_inv Tryz.underlying3 hv;exact⟨c,rfl⟩
  case hDone=>
   intro _ hl0;have hf:R=false:=by
    rw[show R=_ from HR.out,List.any_eq_false];intro q hq;have:=hno.out q hq (hl0 _);simpa using this
   subst hf;clear hrg hno;go_wp2;go_ret;exact⟨rfl,hb⟩
  case hMore=>
   intro x c kl y yp w1 cnt1 hkey hlx hv hat hrg1 hlt hg1 hs1 hen;obtain⟨s,hxs,hkl2⟩:=xw hkey
   cases hxs
   have hb1:Below w.heap.size w w1:=hb.grown hg1 hb.size (fun j hj=>by cases hj;exact Nat.le_refl _);have hp1:w1.cell? p=some (.int .i64 (i:Int)):=(hb1.cell (p:=p) hplt).trans hp;have hhas:Maps.has m kl=true:=Maps.has_true_of_atKey hat;subst hkl2;unfold key at hhas hat hlx hrg1;obtain⟨k,hgk⟩:∃k,M.get x.data.toList=some k:=by
    rw[show m=_ from HMN.out,Nm.zz1]at hhas;exact Option.isSome_iff_exists.1 hhas
   have hia:=fun z=>Nm.ox2 M x.data.toList z hgk;have hy:y=.lit (.int .i64 (k:Int)):=by rw[←hat .nil,show m=_ from HMN.out,hia]
   obtain⟨c',hc',hy2,_⟩:=plainElem_int_inv Tryz.underlying3 hv
   cases hc'
   have hck:c=(k:Int):=by
    have h2:=congrArg Prod.fst hy2;simp only at h2;rw[h2]at hy;injection hy with hy;injection hy with _ hy
   subst hck;have hmem:=Nm.get_mem hgk;have HG:=Lib.hid hgk;clear hat hia hv hy2 hy hgk hhas hp hrg0 hown hg0 hs0 hg1 hs1
   by_cases hki:k=i
   ·have hf:R=true:=by
     rw[show R=_ from HR.out,List.any_eq_true];exact⟨_,hmem,by simp[hki]⟩
    subst hf;subst hki;clear hmem hno hrg hrg1 hlt;go_wp2;go_ret;exact⟨rfl,hb1⟩
   ·have e1:((k:Int)==(i:Int))=false:=by rw[beq_eq_false_iff_ne];omega
    have hno':∀q∈M,(left (.string q.1) &&!(Lit.string q.1).sameKey (.string x.data.toList))=false→q.2≠i:=fun q hq hl=>by
     cases h1:left (.string q.1) with
     |false=>exact hno.out q hq h1
     |true=>
      rw[h1]at hl;have h2:(q.1==x.data.toList)=true:=by
       have e:(Lit.string q.1).sameKey (.string x.data.toList)=(q.1==x.data.toList):=rfl;rw[e]at hl;simpa using hl
      have h3:q.1=x.data.toList:=by simpa using h2
      have h4:Nm.get M q.1=some k:=by rw[h3];exact HG.out
      have hap:Nm.Apart M:=by
       have hpw':=hpw;rw[show es=_ from HES.out,List.pairwise_map]at hpw';exact hpw'.imp (fun {a b} hab e=>hab (by simp only[Nm.lit1,e]))
      rw[Nm.sz1 hap hq]at h4;injection h4 with h4;rw[h4];exact hki
    have HNO:=Lib.hid hno';clear hno' hno hki hmem;go_wp2;go_roundw
    case rel=>exact⟨_,cnt1,HNO,hrg1,hb1⟩
    case measure=>rw[hrg1.left_eq,hrg.left_eq];exact hlt
theorem ix1 (t:Tn):(iw t).length=4:=rfl
theorem Row.turn {B n:Nat} {w:World} {A:Option Addr} {ts:List Tn} (h:Row B w A n 4 (ts.flatMap iw)) {k:Nat} (hk:k < n):∃a,∃hl:k < ts.length,A=some a∧a.block < B∧w.cell? (a.add (k *4))=some (.int .i64 ((ts[k]).kind:Int))∧w.cell? ⟨(a.add (k *4)).block,(a.add (k *4)).off+1,none⟩=some (.int .i64 ((ts[k]).file:Int))∧
  w.cell? ⟨(a.add (k *4)).block,(a.add (k *4)).off+2,none⟩=some (.string (str (ts[k]).a))∧w.cell? ⟨(a.add (k *4)).block,(a.add (k *4)).off+3,none⟩=some (.string (str (ts[k]).b)):=by
 have hlen:=h.len;rw[xq1 iw 4 ix1]at hlen;have hl:k < ts.length:=by omega
 have g:=fun j (hj:j < 4)=>wy1 iw 4 ix1 ts k j hl hj;obtain⟨a,ea,hb,c0⟩:=uk1 h (g 0 (by omega));have cc:∀j v,j < 4→(iw ts[k])[j]?=some v→w.cell? (a.add (k *4+j))=some v:=fun j v hj hv=>by
  obtain⟨a',ea',_,c⟩:=uk1 h ((g j hj).trans hv);rw[ea]at ea';injection ea' with ea';subst ea';exact c
 have cd:∀j v,0 < j→j < 4→(iw ts[k])[j]?=some v→w.cell? ⟨(a.add (k *4)).block,(a.add (k *4)).off+j,none⟩=some v:=fun j v h0 hj hv=>by
  rw[←bk4 a (k *4) h0];exact cc j v hj hv
 exact⟨a,hl,ea,hb,c0,cd 1 _ (by omega) (by omega) rfl,cd 2 _ (by omega) (by omega) rfl,cd 3 _ (by omega) (by omega) rfl⟩
def Tn.makes (i:Nat) (t:Tn):Bool:=decide (t.kind=1) &&decide (t.file=i)
theorem iy4 (t:Tn) (i:Nat) (p:Addr) (w:World) (hp:w.cell? p=some (.int .i64 (i:Int))):
  Calls Tryz.prog 129 #[.agg #[.int .i64 (t.kind:Int),.int .i64 (t.file:Int),.string (str t.a),.string (str t.b)],.pointer (some p)] w fun e w'=>e=.returned (.bool (t.makes i))∧Below w.heap.size w w':=by
 have hplt:=World.block_lt_of_cell? w _ hp;have hbz:=(Below.refl w.heap.size w).alloc (Nat.le_refl _) (.cells #[.int .i64 (t.kind:Int),.int .i64 (t.file:Int),.string (str t.a),.string (str t.b)] 118);have hp1:(w.alloc (.cells #[.int .i64 (t.kind:Int),.int .i64 (t.file:Int),.string (str t.a),.string (str t.b)] 118)).cell? p=some (.int .i64 (i:Int)):=(hbz.cell (p:=p) hplt).trans hp;obtain⟨R,hR⟩:∃R,R=t.makes i:=⟨_,rfl⟩;rw[←hR];have HB:=Lib.hid hbz
 by_cases h1:t.kind=1
 ·have e1:((t.kind:Int)==1)=true:=by rw[beq_iff_eq];omega
  by_cases h2:t.file=i
  ·have e2:((t.file:Int)==(i:Int))=true:=by rw[beq_iff_eq];omega
   have hf:R=true:=by rw[hR];simp[Tn.makes,h1,h2]
   subst hf;clear hR h1 h2 hp hbz;go_enter Tryz.func129,Tryz.ntmps129;go_wp2;go_ret;exact⟨rfl,HB.out⟩
  ·have e2:((t.file:Int)==(i:Int))=false:=by rw[beq_eq_false_iff_ne];omega
   have hf:R=false:=by rw[hR];simp[Tn.makes,h2]
   subst hf;clear hR h1 h2 hp hbz;go_enter Tryz.func129,Tryz.ntmps129;go_wp2;go_ret;exact⟨rfl,HB.out⟩
 ·have e1:((t.kind:Int)==1)=false:=by rw[beq_eq_false_iff_ne];omega
  have hf:R=false:=by rw[hR];simp[Tn.makes,h1]
  subst hf;clear hR h1 hp hbz;go_enter Tryz.func129,Tryz.ntmps129;go_wp2;go_ret;exact⟨rfl,HB.out⟩
theorem fk4 (i:Nat) (p:Addr) (A:Option Addr) (n c:Nat) (ts:List Tn) (w:World) (hn:n≤4611686018427387904) (hr:Row w.heap.size w A n 4 (ts.flatMap iw)) (hp:w.cell? p=some (.int .i64 (i:Int))):
  Calls Tryz.prog 128 #[.slice A n c,.func (.func 129) #[] #[.pointer (some p)]] w fun e w'=>e=.returned (.bool (ts.any (Tn.makes i)))∧Below w.heap.size w w':=by
 have hplt:=World.block_lt_of_cell? w _ hp;have hidx:Calls Tryz.prog 209 #[.slice A n c,.func (.func 129) #[] #[.pointer (some p)]] w fun e w'=>e=.returned (.int .i64 (fidx (Tn.makes i) ts))∧Below w.heap.size w w':=by
  obtain⟨P,hP⟩:∃P:Tn→Bool,P=Tn.makes i:=⟨_,rfl⟩;have hK:∀t w1,Below w.heap.size w w1→Calls Tryz.prog 129 #[.agg #[.int .i64 (t.kind:Int),.int .i64 (t.file:Int),.string (str t.a),.string (str t.b)],.pointer (some p)] w1 fun e w'=>e=.returned (.bool (P t))∧Below w1.heap.size w1 w':=fun t w1 hb=>by
   rw[hP];exact iy4 t i p w1 ((hb.cell (p:=p) hplt).trans hp)
  rw[←hP];have hnn:ts.length=n:=by
   have:=hr.len;rw[xq1 iw 4 ix1]at this;omega
  have HK:=Lib.hid hK;clear hK hP;go_enter Tryz.func209,Tryz.ntmps209;go_wp2
  go_loopw [8] (fun i wr=>∃k:Nat,k≤n∧i=.int .i64 (k:Int)∧Hid ((ts.take k).any P=false)∧Below w.heap.size w wr) (fun i _=>n - (intOf i).toNat)
  case atStart=>exact⟨0,Nat.zero_le _,rfl,Lib.hid rfl,Below.refl _ _⟩
  case round=>
   obtain⟨k,hk,rfl,hb,hbl⟩:=hrel
   by_cases hlt:k < n
   ·obtain⟨a,hl,rfl,hbk,c0,c1,c2,c3⟩:=(hr.below hbl).turn hlt
    have ht:=kw1 (P:=P) hl;have hs:=fun h1=>fy1 (P:=P) hl hb.out h1;generalize ts[k]=f at *;have HT:=Lib.hid ht;have HS:=Lib.hid hs;clear ht hs hl;have hc:=HK.out f wr hbl
    cases hp:P f with
    |true=>
     rw[hp]at hc;have HP:=Lib.hid hp;clear hp;go_wp2_with fail;refine hc.mono ?_;rintro e w1 ⟨rfl,hb1⟩;go_wp2;go_ret;exact⟨tw1 (HS.out HP.out).symm,az hbl hb1⟩
    |false=>
     rw[hp]at hc;have HP:=Lib.hid hp;clear hp;go_wp2_with fail;refine hc.mono ?_;rintro e w1 ⟨rfl,hb1⟩;go_wp2;go_roundw
     case rel=>exact⟨k+1,by omega,by go_num,Lib.hid (by rw[HT.out,hb.out,HP.out];rfl),az hbl hb1⟩
     case measure=>simp[intOf];omega
   ·have hall:fidx P ts=-1:=cx1 (by
     have hb':=hb.out
     rwa [List.take_of_length_le (by omega)]at hb')
    have HA:=Lib.hid hall;clear hall;go_wp2;go_ret;exact⟨tw1 HA.out.symm,hbl⟩
 have hge:=rj1 (Tn.makes i) ts;generalize fidx (Tn.makes i) ts=j at *;have HGE:=Lib.hid hge;clear hge;go_enter Tryz.func128,Tryz.ntmps128;go_wp2_with fail;refine hidx.mono ?_;rintro e w1 ⟨rfl,hb⟩;clear hidx;go_wp2;go_ret;exact⟨iw1 HGE.out,hb⟩
end
section
open Go Go.RowKit Go.Maps
theorem nw4 (S:Sd) (k:Nat):(List.range (k+1)).filter S.aw1=(List.range k).filter S.aw1++if S.aw1 k then [k] else []:=by
 rw[List.range_succ,List.filter_append]
 congr 1
 by_cases h:S.aw1 k<;>simp[h]
def pq1 (l:List Nat):List Value:=l.map fun(n:Nat)=>.int .i64 (n:Int)
theorem tv4 (X:Dw) (S:Sd) (w:World) (h:DK w X S) (hload:S.load≤1099511627776):
  Calls Tryz.prog 62 #[.pointer (some ⟨X.d,0,none⟩)] w fun e w'=>∃A c,e=.returned (.slice A S.led.length c)∧S.led.length≤c∧c≤maxLen∧w'.ownsRow w.heap.size 3 1 (.slice A S.led.length c) S.led.length (pq1 S.led)∧Below w.heap.size w w':=by
 obtain⟨fA,fc,hfv,hfn,hfm,_⟩:=ay h.files;obtain⟨tA,tc,htv,htn,htm,_⟩:=ay h.turns;have hF:S.files.length≤1099511627776∧S.turns.length≤1099511627776:=by unfold Sd.load at hload;omega
 have hcells:∀W,Below w.heap.size w W→W.cell? ⟨X.d,1,none⟩=some (.slice fA S.files.length fc)∧W.cell? ⟨X.d,2,none⟩=some (.map (some X.nb))∧W.cell? ⟨X.d,3,none⟩=some (.map (some X.lb))∧W.cell? ⟨X.d,4,none⟩=some (.slice tA S.turns.length tc):=fun W hb=>by
  have hB:=(h.below hb).box;have d1:=hB.cell 1;have d2:=hB.cell 2;have d3:=hB.cell 3;have d4:=hB.cell 4;simp only[Dw.cells,gE0,gE1]at d1 d2 d3 d4;rw[hfv]at d1;rw[htv]at d4;exact⟨d1,d2,d3,d4⟩
 have hth:=fun(i:Nat) (p:Addr) W (hb:Below w.heap.size w W) (hp:W.cell? p=some (.int .i64 (i:Int)))=>fk4 i p tA S.turns.length tc S.turns W (by omega) (by have:=(h.below hb).turns;rw[htv]at this;exact Row.own this) hp;have hln:=fun(i:Nat) (p:Addr) W (hb:Below w.heap.size w W) (hp:W.cell? p=some (.int .i64 (i:Int)))=>iq3 X.nb S.names i p W (h.below hb).names hp;have hll:=fun(i:Nat) (p:Addr) W (hb:Below w.heap.size w W) (hp:W.cell? p=some (.int .i64 (i:Int)))=>iq3 X.lb S.lasted i p W (h.below hb).lasted hp;have HC:=Lib.hid hcells;have HTH:=Lib.hid hth;have HLN:=Lib.hid hln;have HLL:=Lib.hid hll;have hdlt:=h.box.lt;obtain⟨ii,hi0,hi1,hi2,hi3⟩:=info_parts ly2;obtain⟨d1,d2,d3,d4⟩:=hcells w (Below.refl _ _);clear hcells hth hln hll hfv htv h hload d2 d3 d4;go_enter Tryz.func62,Tryz.ntmps62;go_wp2
 go_loopw [3,12] (fun o i wr=>∃(k:Nat) (oA:Option Addr) (oc:Nat),k≤S.files.length∧i=.int .i64 (k:Int)∧o=.slice oA ((List.range k).filter S.aw1).length oc∧((List.range k).filter S.aw1).length≤oc∧oc≤maxLen∧wr.ownsRow w.heap.size 3 1 (.slice oA ((List.range k).filter S.aw1).length oc) ((List.range k).filter S.aw1).length (pq1 ((List.range k).filter S.aw1))∧Below w.heap.size w wr) (fun _ i _=>S.files.length - (intOf i).toNat)
 case atStart=>exact⟨0,none,0,Nat.zero_le _,rfl,rfl,Nat.le_refl _,Nat.zero_le _,(World.ownsRow_nil w w.heap.size 3 1:w.ownsRow _ _ _ (.slice none 0 0) 0 []),Below.refl _ _⟩
 case round=>
  obtain⟨k,oA,oc,hk,rfl,rfl,hoc,hom,hown,hb⟩:=hrel
  by_cases hlt:k < S.files.length
  ·have hstep:=nw4 S k
   obtain⟨L,hL⟩:∃L,L=(List.range k).filter S.aw1:=⟨_,rfl⟩;have hLl:L.length≤k:=by rw[hL];have:=List.length_filter_le S.aw1 (List.range k);simpa using this
   rw[←hL]at hown hstep hoc;have hba:=hb.alloc hb.size (.cells #[.int .i64 (k:Int)] 3);have hp:(wr.alloc (.cells #[.int .i64 (k:Int)] 3)).cell? ⟨wr.heap.size,0,none⟩=some (.int .i64 (k:Int)):=by simp
   have hown1:=own_below hown ((Below.refl wr.heap.size wr).alloc (Nat.le_refl _) (.cells #[.int .i64 (k:Int)] 3));have HLE:=Lib.hid hL;have HST:=Lib.hid hstep;obtain⟨d1',d2',d3',d4'⟩:=HC.out _ hba;have hth:=HTH.out k _ _ hba hp;have hplt:wr.heap.size < (wr.alloc (.cells #[.int .i64 (k:Int)] 3)).heap.size:=by simp
   rw[←show L=_ from hL];obtain⟨made,hmade⟩:∃b,b=S.turns.any (Tn.makes k):=⟨_,rfl⟩;rw[←hmade]at hth;have HMD:=Lib.hid hmade;clear hL hstep hown hmade;go_wp2_with fail;refine hth.mono ?_;rintro e w2 ⟨rfl,hb2⟩;have hb02:=az hba hb2;have hp2:=(hb2.cell (p:=⟨wr.heap.size,0,none⟩) hplt).trans hp;have hown2:=own_below hown1 hb2;have hpl2:wr.heap.size < w2.heap.size:=Nat.lt_of_lt_of_le hplt hb2.size;clear hth hown1 d1' d2' d3' d4' hba hp hb2 hplt;go_upto_region 7 with (fail)
   go_cut [38] from 22 to 38 (fun t wx=>t=.bool (S.aw1 k)∧Below w2.heap.size w2 wx)
   case first=>
    obtain⟨d1',d2',d3',d4'⟩:=HC.out _ hb02;have hln:=HLN.out k _ _ hb02 hp2
    cases made with
    |true=>
     have hm:S.turns.any (Tn.makes k)=true:=HMD.out.symm;have he:S.aw1 k=true:=by
      unfold Sd.aw1;rw[show (S.turns.any fun t=>decide (t.kind=1) &&decide (t.file=k))=true from hm];rfl
     have HEE:=Lib.hid he;clear he hm hln;go_wp2
     go_meet
     exact⟨by rw[HEE.out],Below.refl _ _⟩
    |false=>
     have hm:S.turns.any (Tn.makes k)=false:=HMD.out.symm;have hm1:=Lib.hid hm;go_wp2_with fail;refine hln.mono ?_;rintro e w3 ⟨rfl,hb3⟩;have hb03:=az hb02 hb3;have hp3:=(hb3.cell (p:=⟨wr.heap.size,0,none⟩) hpl2).trans hp2;have hll:=HLL.out k _ _ hb03 hp3;clear hln hm d1' d2' d3' d4';obtain⟨d1',d2',d3',d4'⟩:=HC.out _ hb03
     cases hm:S.names.any (fun q=>decide (q.2=k)) with
     |true=>
      have he:S.aw1 k=true:=by
       unfold Sd.aw1;rw[hm];simp
      have HEE:=Lib.hid he;clear he hm hll;go_wp2
      go_meet
      exact⟨by rw[HEE.out],hb3⟩
     |false=>
      have hm2:=Lib.hid hm;clear hm;have he:S.aw1 k=S.lasted.any (fun q=>decide (q.2=k)):=by
       unfold Sd.aw1;rw[hm2.out,show (S.turns.any fun t=>decide (t.kind=1) &&decide (t.file=k))=false from hm1.out];rfl
      have HEE:=Lib.hid he;clear he;go_wp2_with fail;refine hll.mono ?_;rintro e w4 ⟨rfl,hb4⟩;clear hll;go_wp2
      go_meet
      exact⟨by rw[HEE.out],az hb3 hb4⟩
   case rest=>
    obtain⟨rfl,hb3⟩:=hcut;have hb03:=az hb02 hb3;have hp3:=(hb3.cell (p:=⟨wr.heap.size,0,none⟩) hpl2).trans hp2;have hown3:=own_below hown2 hb3;clear hown2 hp2
    cases hq:S.aw1 k with
    |true=>
     have hst:=HST.out;rw[hq,if_pos rfl]at hst;have HS2:=Lib.hid hst;have hkr:=Row.new wc #[.int .i64 (k:Int)] 3 (n:=1) (size:=1) rfl;clear hst hq;go_wp2_with (at_builtin;refine jq ?_);refine gy (xq rfl (.tmp 39) (.tmp 41) _ rfl w.heap.size 3 ii _ 1 8 Tryz.underlying48 hi0 hi1 hi2 hi3 rfl (by omega) w (hb03.alloc hb03.size _) (Nat.le_trans hb03.size (by simp)) (.slice oA L.length oc) L.length (pq1 L) rfl (own_below hown3 ((Below.refl _ _).alloc (Nat.le_refl _) _)) (wc.heap.size+1) _ 1 1 (by omega) [.int .i64 (k:Int)] rfl hkr (by intro u hu;simp at hu;subst hu;rfl) (L.length+1) (pq1 (L++[k])) rfl (by simp[pq1]) (by unfold maxLen;omega) (by omega) ?_);intro A3 c3 w5 hown5 hbb5 hg5 hc5 hm5 hv5;have hkk:(L++[k]).length=L.length+1:=by simp
     go_wp2;go_roundw
     case rel=>exact⟨k+1,A3,c3,by omega,by go_num,by rw[show (List.range (k+1)).filter S.aw1=_ from HS2.out,hkk],by rw[show (List.range (k+1)).filter S.aw1=_ from HS2.out,hkk];exact hc5,hm5,by rw[show (List.range (k+1)).filter S.aw1=_ from HS2.out,hkk];exact hown5,hbb5⟩
     case measure=>simp[intOf];omega
    |false=>
     have hst:=HST.out;rw[hq,if_neg (by decide),List.append_nil]at hst;have HS2:=Lib.hid hst;clear hst hq;go_wp2;go_roundw
     case rel=>exact⟨k+1,oA,oc,by omega,by go_num,by rw[show (List.range (k+1)).filter S.aw1=_ from HS2.out],by rw[show (List.range (k+1)).filter S.aw1=_ from HS2.out];exact hoc,hom,by rw[show (List.range (k+1)).filter S.aw1=_ from HS2.out];exact hown3,hb03⟩
     case measure=>simp[intOf];omega
  ·obtain rfl:k=S.files.length:=by omega
   go_wp2;go_ret;exact⟨oA,oc,rfl,hoc,hom,hown,hb⟩
end
end Go.Proofs.YthjdpplgfdihoaaGreatDoor
