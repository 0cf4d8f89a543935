/- Some of the texts. No conditions. -/
import Derived.Test.YtkdbagdiplpcfaaGreatDoorBunAF
import Derived.Test.YtkdbagdiplpcfaaGreatDoorBunAD
import Derived.Test.YtkdbagdiplpcfaaGreatDoorBunAC
import Derived.Test.YtkdbagdiplpcfaaGreatDoorBunAE

set_option linter.unusedSimpArgs false
set_option linter.unusedVariables false
set_option maxRecDepth 100000
set_option maxHeartbeats 16000000
namespace Go.Proofs.YtkdbagdiplpcfaaGreatDoor
open Go.Proofs.Tryz Go Go.RowKit Go.Lib Go.Shelf
section
open Go.Maps
theorem append_eq (S:Sd) (s b:List UInt8):S.append s b=if (S.call [s]).2≠0 then S.call [s] else match S.names.get s with
  |none=>((S.call [s]).1,11)
  |some i=>if 250000 < b.length\/250000 < S.size i+b.length then ((S.call [s]).1,2) else if S.quota < S.used+b.length then ((S.call [s]).1,15)
   else ({ (S.call [s]).1 with files:=S.files.set i ((S.files.getD i ([],0)).1++b,(S.files.getD i ([],0)).2) },0):=rfl
theorem Row.vx2 {w w':World} {B n size:Nat} {A:Option Addr} {xs:List Value} {G:List Nat} (r:Row B w A n size xs) (h:Chg G w w') (C:B<=w.heap.size) (hF:∀a,A=some a->a.block∉G):Row w'.heap.size w' A n size xs:=
 (h.row r C hF).up (j_ C h.size)
theorem DK.drew {w:World} {X:Dw} {S:Sd} (h:DK w X S):DK w.drew X S:=h.chg ((Chg.refl [] w).drew) (fun g C=>by cases C)
theorem vx5 {w w4:World} {X:Dw} {S:Sd} (h:DK w X S) {i:Nat} (hi:i < S.files.length) (C:i < X.ps.length) {b:List UInt8} {v:Value} (I:w.grownBy w4 (X.ps[i]).2.ownBlock)
  (O:w4.ownsRow 0 5 1 v ((S.files[i]).1.length+b.length) (bts (S.files[i]).1++bts b)) (a2:v.ownBlock=(X.ps[i]).2.ownBlock\/v.ownBlock=some w.heap.size):
  (w4.cell? ⟨(X.ps[i]).1,0,none⟩=some (X.ps[i]).2/\w4.frozen? ⟨(X.ps[i]).1,0,none⟩=false)/\Upd X w (w4.setCell ⟨(X.ps[i]).1,0,none⟩ v) { S with files:=S.files.set i ((S.files[i]).1++b,(S.files[i]).2) }:=by
 have J:=h.file i hi C;have E:=h.apart.self _ (u_ C);have hv:∀g,v.ownBlock=some g->(X.ps[i]).2.ownBlock=some g\/w.heap.size<=g:=fun g e=>by
  rcases a2 with h1|h1
  ·exact .inl (by rw[<-h1,e])
  ·rw[e]at h1
   injection h1 with h1;exact .inr o_
 have key:=fun(w2:World) (hf:az2 w2 ((X.ps[i]).1,v) ((S.files[i]).1++b,(S.files[i]).2)) (c:Chg (iw X.ps[i]) w w2)=>DK.jq2 h C hf c hv;have a5:=uw3 C hv;have Q:=fun g I=>tk1 (X:=X) (i:=i) C (g:=g) I;generalize S.files[i]=f at *;generalize X.ps[i]=p at *;obtain⟨U,b0⟩:=J;have Z:Chg p.2.ownBlock.toList w w4:=Chg.qy I (fun b e=>by simp[e]);have H:=U.chg Z (fun hm=>E (by simpa using hm));have a0:=H.store 0 v;have a6:=xw w4 ⟨p.1,0,none⟩ v;have a7:∀g,v.ownBlock=some g->g≠p.1:=fun g e e2=>by
  subst e2
  rcases hv _ e with h1|h1
  ·exact E h1
  ·have:=U.lt
   omega
 have hrow:=jy O a6 (fun g e I=>a7 g e (by simpa using I));have a1:Chg (iw p) w (w4.setCell ⟨p.1,0,none⟩ v):=(Z.mono (G:=iw p) (fun g I=>.inl (by simp only[iw,f_];exact .inr I))).setCell v (.inl (by simp[iw]));have a8:=key _ ⟨a0,by simpa [xq1] using hrow⟩ a1;have e0:=H.c0;exact⟨⟨e0,H.free 0⟩,⟨{ X with ps:=X.ps.set i (p.1,v) },rfl,a8,a1.mono (fun g I=>.inl (Q g I)),a5⟩⟩
theorem zq1 (X:Dw) (S:Sd) (s:ByteArray) (hs:s.size<=maxLen) (A:Option Addr) (m c:Nat) (b:List UInt8) (hm:m<=1099511627776) (hw:S.Wf) (w:World) (h:DK w X S) (hr:Row w.heap.size w A m 1 (bts b)) (hA:∀a,A=some a->a.block≠X.d):
  Calls prog 136 #[.pointer (some ⟨X.d,0,none⟩),.string s,.slice A m c] w fun e w'=>e=.returned (.int .i64 ((S.append s.data.toList b).2:Int))/\Upd X w w' (S.append s.data.toList b).1:=by
 have H:=jk5 X S s hs hw w h;have a2:=hw.call [s.data.toList];have a5:b.length=m:=hr.zk;obtain⟨e1,e2,e3,e4,e5,_,_⟩:=Sd.nz S [s.data.toList];have e6:=Sd.wv4 S [s.data.toList];have E:=append_eq S s.data.toList b;generalize S.call [s.data.toList]=R at *;obtain⟨S1,er⟩:=R;simp only at *
 by_cases h0:er=0
 ·subst h0
  rw[if_neg s_]at E;have Q:=fun C h1=>find_any X S1 s hs C h1 a2.names
  cases h3:S.names.get s.data.toList with
  |none=>
   simp only[h3]at E;rw[E];simp only[e1,h3]at Q;clear E h3 e1 e2 e3 e4 e5 e6 a2 hw h a5;go_enter func136,ntmps136;go_wp2_with fail;refine H.mono ?_;rintro e C ⟨rfl,h1,I⟩;go_wp2_with fail;refine(Q C h1).mono ?_;rintro e w2 ⟨rfl,rfl⟩;go_wp2;go_ret;exact⟨rfl,Upd.called h1 I⟩
  |some i=>
   simp only[h3]at E;simp only[e1,h3]at Q;have hi:i < S1.files.length:=by rw[e3];exact hw.names _ (Nm.get_mem h3)
   have d0:S.size i=(S1.files[i]).1.length:=by simp[Sd.size,<-e3,B_,hi]
   have d1:S.files.getD i ([],0)=S1.files[i]:=by simp[<-e3,B_,hi]
   have e9:=(a2.file i hi).2;have e':=Sd.vj5 a2;have hq:=a2.quota;rw[d1,d0,<-e3,<-e5,<-e6,a5]at E;obtain⟨p,hp⟩:=n_ (X.ps.getD i (0,Go.undef));rw[<-hp]at Q;have hE:∀(C:World) (h1:DK C X S1),∃fA fc,p.2=.slice fA (S1.files[i]).1.length fc/\C.cell? ⟨p.1,0,none⟩=some (.slice fA (S1.files[i]).1.length fc):=fun C h1=>by
    have J:i < X.ps.length:=by rw[h1.flen];exact hi
    have U:X.ps.getD i (0,Go.undef)=X.ps[i]:=by simp[B_,J]
    obtain⟨g8,g9⟩:=h1.file i hi J;obtain⟨fA,fc,f5,_⟩:=gz g9;have e0:=g8.c0;rw[hp,U];exact⟨fA,fc,f5,by rw[e0,f5]⟩
   by_cases Z:250000 < m\/250000 < (S1.files[i]).1.length+m
   ·rw[if_pos Z]at E
    rw[E];have HE:=H_ hE;clear hp hE E d0 d1 h3 e1 e2 e3 e4 e5 e6 hw a5 h e' hq;generalize (S1.files[i]).1.length=F at *
    by_cases i9:250000 < m
    ·have b7:(250000:Int) < (m:Int):=o_
     go_enter func136,ntmps136;go_wp2_with fail;refine H.mono ?_;rintro e C ⟨rfl,h1,I⟩;go_wp2_with fail;refine(Q C h1).mono ?_;rintro e w2 ⟨rfl,rfl⟩;unfold ptrV;go_wp2;go_ret;exact⟨rfl,Upd.called h1 I⟩
    ·have b7:((250000:Int) < (m:Int))=False:=by simp;omega
     have a6:(250000:Int) - (m:Int) < (F:Int):=o_
     go_enter func136,ntmps136;go_wp2_with fail;refine H.mono ?_;rintro e C ⟨rfl,h1,I⟩;go_wp2_with fail;refine(Q C h1).mono ?_;rintro e w2 ⟨rfl,rfl⟩;obtain⟨fA,fc,_,e0⟩:=HE.out C h1;unfold ptrV;go_wp2;go_ret;exact⟨rfl,Upd.called h1 I⟩
   ·rw[if_neg Z]at E
    have b7:((250000:Int) < (m:Int))=False:=by simp;omega
    have a6:((250000:Int) - (m:Int) < ((S1.files[i]).1.length:Int))=False:=by simp;omega
    have i4:(250000:Int) - (m:Int)<=250000:=o_
    have i':m<=250000:=o_
    have J:∀C,DK C X S1->i < X.ps.length:=fun C h1=>by rw[h1.flen];exact hi
    have b8:∀(C w4:World) (v:Value) (h1:DK C X S1) (hg:C.grownBy w4 p.2.ownBlock) (b9:w4.ownsRow 0 5 1 v ((S1.files[i]).1.length+m) (bts (S1.files[i]).1++bts b)) (d2:v.ownBlock=p.2.ownBlock\/v.ownBlock=some C.heap.size),
      (w4.cell? ⟨p.1,0,none⟩=some p.2/\w4.frozen? ⟨p.1,0,none⟩=false)/\Upd X C (w4.setCell ⟨p.1,0,none⟩ v) { S1 with files:=S1.files.set i ((S1.files[i]).1++b,(S1.files[i]).2) }:=fun C w4 v h1 hg b9 d2=>by
     have U:p=X.ps[i]'(J C h1):=by rw[hp];simp[B_,J C h1]
     rw[U]at hg d2 ⊢;exact vx5 h1 hi (J C h1) hg (by rw[a5];exact b9) d2
    have hrow:∀C,DK C X S1->C.ownsRow 0 5 1 p.2 (S1.files[i]).1.length (bts (S1.files[i]).1):=fun C h1=>by
     have U:p=X.ps[i]'(J C h1):=by rw[hp];simp[B_,J C h1]
     rw[U];exact(h1.file i hi (J C h1)).row
    have HE:=H_ hE;have b':=H_ b8;have c9:=H_ hrow;have a1:=fun C h1=>dk5 X S1 C h1 a2.names (j_ e' o_);clear hE hp b8 hrow d0 d1 h3 e1 e2 e3 e4 e5 e6 hw a5 h Z J;have f7:∀C,DK C X S1->C.cell? ⟨X.d,0,none⟩=some (.int .i64 (S1.quota:Int)):=fun C h1=>by rw[h1.box.cell 0];rfl
    have b1:=H_ f7;clear f7;obtain⟨i0,g',h6,h9,h'⟩:=info_parts fj1;have a7:IntKind.i64.wrap ((S1.quota:Int) - (m:Int))=(S1.quota:Int) - (m:Int):=by
     have hb:-9223372036854775808<=(S1.quota:Int) - (m:Int)/\(S1.quota:Int) - (m:Int)<=9223372036854775807:=o_
     rw[IntKind.wrap_i64];have hw:=IntWalk.wrap64_in _ hb;unfold wrap64 at hw;exact hw
    have f8:=H_ a7;clear a7
    by_cases b2:S1.quota < S1.used+m
    ·rw[if_pos b2]at E
     rw[E];have f9:(S1.quota:Int) - (m:Int) < (S1.used:Int):=o_
     clear E b2;generalize (S1.files[i]).1.length=F at *;go_enter func136,ntmps136;go_wp2_with fail;refine H.mono ?_;rintro e C ⟨rfl,h1,I⟩;go_wp2_with fail;refine(Q C h1).mono ?_;rintro e w2 ⟨rfl,rfl⟩;obtain⟨fA,fc,b3,e0⟩:=HE.out C h1;have q0:=b1.out C h1;have a8:=H_ a1;clear a1 b3;unfold ptrV;go_wp2;have a7:=f8.out
     go_region_with ((go_at_call 203;refine(a8.out _ h1.drew).mono ?_;rintro e w2 ⟨rfl,O⟩;have q0:=b1.out w2 (h1.drew.below O)))
     all_goals
      have b5:Upd X w w2 S1:=Upd.called (h1.drew.below O) (I.trans ((Chg.refl [X.d] C).drew.trans (Chg.of_below O [X.d]) (fun g hg=>.inl hg)) (fun g hg=>.inl hg));clear q0;go_wp2;go_ret;exact⟨rfl,b5⟩
    ·rw[if_neg b2]at E
     rw[E];have f9:((S1.quota:Int) - (m:Int) < (S1.used:Int))=False:=by simp;omega
     clear E b2;obtain⟨f,hf⟩:=n_ (S1.files[i]);rw[<-hf]at c9 b' HE a6 e9 ⊢;clear hf;go_enter func136,ntmps136;go_wp2_with fail;refine H.mono ?_;rintro e C ⟨rfl,h1,I⟩;go_wp2_with fail;refine(Q C h1).mono ?_;rintro e w2 ⟨rfl,rfl⟩;obtain⟨fA,fc,b3,e0⟩:=HE.out C h1;have d3:=H_ b3;have q0:=b1.out C h1;have a8:=H_ a1;have f':=H_ (Row.vx2 hr I l_ (fun a e hg=>hA a e (by simpa using hg)));clear a1 b3;unfold ptrV;go_wp2;have a7:=f8.out
     go_region_with ((go_at_call 203;refine(a8.out _ h1.drew).mono ?_;rintro e w2 ⟨rfl,O⟩;have q0:=b1.out w2 (h1.drew.below O)))
     all_goals
      have h2:=h1.drew.below O;have i1:Chg [X.d] w w2:=I.trans ((Chg.refl [X.d] C).drew.trans (Chg.of_below O [X.d]) (fun g hg=>.inl hg)) (fun g hg=>.inl hg);have i2:=H_ ((f'.out.drew.below O).arg (j_ s_ O.size));have e2:w2.cell? ⟨p.1,0,none⟩=some (.slice fA f.1.length fc):=by
       obtain⟨j2,j3,h7,h8⟩:=HE.out w2 h2;rw[h8,<-h7,d3.out]
      have d4:=c9.out w2 h2;rw[d3.out]at d4;have g0:=H_ d4;have d5:=fun w4 v=>b'.out w2 w4 v h2;rw[d3.out]at d5;have g1:=H_ d5;clear q0 e0 d4 d5 f' a7 a6;go_wp2_with (at_builtin;refine iy ?_);refine bz (lq3 rfl (.tmp 52) (.tmp 53) _ rfl 0 5 i0 _ 1 1 underlying150 g' h6 h9 h' rfl o_ z_ (.slice fA f.1.length fc) f.1.length _ rfl g0.out _ A m c (bts b) rfl i2.out (av1 _) (f.1.length+m) _ rfl rfl (by unfold maxLen;omega) o_ ?_);intro A4 c4 w4 a9 g2 _ _ c';obtain⟨⟨q4,q5⟩,g4⟩:=g1.out _ _ g2 a9 c';have HU:=H_ (Upd.after i1 g4);clear a9 g2 c' g0 g1 g4 e2;go_wp2;go_ret;exact⟨rfl,HU.out⟩
 ·have j7:=neq0 h0
  rw[if_pos h0]at E;rw[E];clear E e1 e2 e3 e4 e5 h0 e6;go_enter func136,ntmps136;go_wp2_with fail;refine H.mono ?_;rintro e C ⟨rfl,h1,I⟩;go_wp2;go_ret;exact⟨rfl,Upd.called h1 I⟩
end
namespace Sd
variable {d:Sd}
theorem gq1 (d:Sd) (s:List UInt8):(d.create s).1.load<=d.load+2:=by
 have h:=bv1 d [s];obtain⟨C,E,H,I,_⟩:=nz d [s];unfold create
 dsimp only
 split
 ·omega
 ·split
  ·exact j_ (bA_ h) (aw_ _ _)
  ·split
   ·exact j_ (bA_ h) (aw_ _ _)
   ·simp only[load,d_,ad_]
    omega
theorem fv1 (d:Sd) (s b:List UInt8):(d.append s b).1.load=d.load:=by
 have h:=bv1 d [s];obtain⟨E,H,I,C,_⟩:=nz d [s];unfold append
 dsimp only
 split
 ·exact h
 ·split
  ·exact h
  ·split
   ·exact h
   ·split
    ·exact h
    ·simp[load,C]
theorem ex1 (d:Sd) (s:List UInt8):(d.sync s).1.load=d.load:=by
 have h:=bv1 d [s];obtain⟨E,H,I,C,_⟩:=nz d [s];unfold sync
 dsimp only
 split
 ·exact h
 ·split
  ·exact h
  ·simp[load,C]
theorem jy2 (d:Sd) (a b:List UInt8):(d.rename a b).1.load<=d.load+1:=by
 have h:=bv1 d [a,b];obtain⟨E,H,C,I,_⟩:=nz d [a,b];unfold rename
 dsimp only
 split
 ·omega
 ·split
  ·exact j_ (bA_ h) (aw_ _ _)
  ·split
   ·exact j_ (bA_ h) (aw_ _ _)
   ·simp only[load,d_,ad_,C]
    omega
theorem cx1 (d:Sd) (s:List UInt8):(d.remove s).1.load<=d.load+1:=by
 have h:=bv1 d [s];obtain⟨E,H,C,I,_⟩:=nz d [s];unfold remove
 dsimp only
 split
 ·omega
 ·split
  ·exact j_ (bA_ h) (aw_ _ _)
  ·simp only[load,d_,ad_,C]
   omega
theorem dj1 (d:Sd):(d.ax).1.load<=d.load:=by
 have h:=bv1 d [];obtain⟨E,H,C,I,_⟩:=nz d [];unfold ax
 dsimp only
 split
 ·omega
 ·simp[load,C]
def write (d:Sd) (s b:List UInt8):Sd×Nat:=
 if (d.create s).2≠0 then d.create s
 else if ((d.create s).1.append s b).2≠0 then (d.create s).1.append s b
 else ((d.create s).1.append s b).1.sync s
theorem Wf.write {d:Sd} (h:d.Wf) (s b:List UInt8):(d.write s b).1.Wf:=by
 unfold Sd.write;split
 ·exact h.create s
 ·split
  ·exact(h.create s).append s b
  ·exact((h.create s).append s b).sync s
theorem aq1 (d:Sd) (s b:List UInt8):(d.write s b).1.load<=d.load+2:=by
 have h1:=gq1 d s;have h2:=fv1 (d.create s).1 s b;have h3:=ex1 ((d.create s).1.append s b).1 s;unfold write;split
 ·omega
 ·split
  ·omega
  ·omega
end Sd
structure Ms where
 name:List UInt8
 v:Bv
 count:Nat
 broken:Bool
namespace Mn
def greatest (l:List (List UInt8)) (kind:List UInt8):Int:=l.foldl (fun m s=>max m ((number s kind).getD 0)) 0
theorem xz2 {l:List (List UInt8)} {k:Nat} (h:k < l.length) (kind:List UInt8):greatest (l.take (k+1)) kind=max (greatest (l.take k) kind) ((number l[k] kind).getD 0):=by
 unfold greatest;rw[r_ h,a6_];rfl
theorem lv1 {s kind:List UInt8} {v:Int} (h:number s kind=some v) (hs:s≠[]):1<=v/\v<=1073741824:=by
 have h1:=sx1 h
 by_cases C:(fits v&&isKind kind)=true
 ·simp[fits]at C;omega
 ·rw[name,if_neg C]at h1;exact absurd h1.symm hs
end Mn
namespace Mw
open Mn
def kCur:List UInt8:=[99,117,114,114,101,110,116]
def jw:List UInt8:=[99,117,114,114,101,110,116,46,116,109,112]
def headB (n:Int):List UInt8:=Fr.put 8 (Pn.put n.toNat)
def sweep (nm:List UInt8):List (List UInt8)->Sd->Sd
 |[],d=>d
 |o::r,d=>sweep nm r (if (number o kMan).isSome&&!(o==nm) then (d.remove o).1 else d)
end Mw
structure Gs where
 name:List UInt8
 v:Vw
 count:Nat
 broken:Bool
namespace Gw
open Mn
open Mw (kCur jw headB sweep)
def fin (d:Sd) (M:Gs) (nm:List UInt8):Sd×Gs×Nat:=
 if (d.ax).2≠0 then ((d.ax).1,{ M with name:=nm,count:=1,broken:=true },(d.ax).2)
 else (sweep nm (d.ax).1.list (d.ax).1,{ M with name:=nm,count:=1 },0)
def ren (d:Sd) (M:Gs) (nm:List UInt8):Sd×Gs×Nat:=
 if (d.rename jw kCur).2≠0 then ((d.rename jw kCur).1,M,(d.rename jw kCur).2) else fin (d.rename jw kCur).1 M nm
def sd1 (d:Sd) (M:Gs) (nm:List UInt8):Sd×Gs×Nat:=
 if (d.ax).2≠0 then ((d.ax).1,M,(d.ax).2) else ren (d.ax).1 M nm
def hd (d:Sd) (M:Gs) (nm:List UInt8):Sd×Gs×Nat:=
 if (d.write jw (headB ((number nm kMan).getD 0))).2≠0 then ((d.write jw (headB ((number nm kMan).getD 0))).1,M,(d.write jw (headB ((number nm kMan).getD 0))).2)
 else sd1 (d.write jw (headB ((number nm kMan).getD 0))).1 M nm
def tmp (d:Sd) (M:Gs) (nm:List UInt8):Sd×Gs×Nat:=
 if (d.read jw).2=0 then
  if (d.remove jw).2≠0 then ((d.remove jw).1,M,(d.remove jw).2) else hd (d.remove jw).1 M nm
 else hd d M nm
def rewrite (d:Sd) (M:Gs) (nm:List UInt8):Sd×Gs×Nat:=
 if (d.write nm M.v.whole.rec_).2≠0 then ((d.write nm M.v.whole.rec_).1,M,(d.write nm M.v.whole.rec_).2)
 else tmp (d.write nm M.v.whole.rec_).1 M nm
def put (d:Sd) (M:Gs) (e:Ed) (v:Vw):Sd×Gs×Nat:=
 if (d.append M.name e.rec_).2≠0 then ((d.append M.name e.rec_).1,M,(d.append M.name e.rec_).2)
 else if ((d.append M.name e.rec_).1.sync M.name).2≠0 then (((d.append M.name e.rec_).1.sync M.name).1,{ M with count:=M.count+1,v:=v,broken:=true },((d.append M.name e.rec_).1.sync M.name).2)
 else (((d.append M.name e.rec_).1.sync M.name).1,{ M with count:=M.count+1,v:=v },0)
def save (d:Sd) (M:Gs) (e:Ed):Sd×Gs×Nat:=
 if M.broken=true then (d,M,14)
 else if e.may=false then (d,M,1)
 else match M.v.app e with
  |none=>(d,M,1)
  |some v=>put d M e v
def rewriteM (d:Sd) (M:Gs):Sd×Gs×Nat:=
 if M.broken=true then (d,M,14)
 else if 1073741824 < greatest d.list kMan+1 then (d,M,65)
 else rewrite d M (name kMan (greatest d.list kMan+1))
end Gw
theorem Vw.fx2 {v:Vw} (h:v.ok=true):v.whole.may=true:=by
 simp only[Vw.ok,isNum,G_,decide_eq_true_eq]at h;obtain⟨⟨⟨⟨⟨h1,h2⟩,h3⟩,h4⟩,h5⟩,_⟩:=h;have C:decide (0<=v.log)=true:=by simp;omega
 have E:decide (v.log<=1073741824)=true:=by simp;omega
 simp[Ed.may,Vw.whole,h3,h4,h5];exact⟨C,E⟩
theorem Ed.wy2 {e:Ed} (h:e.may=true):e.rec_.length<=2012:=by
 have:=Ed.bq1 e h;rw[Ed.rec_,Fr.vk];omega
def cont (d:Sd) (s:List UInt8):Option (List UInt8):=(d.names.get s).map fun i=>(d.files.getD i ([],0)).1
def upd (f:List UInt8->Option (List UInt8)) (s:List UInt8) (v:Option (List UInt8)):List UInt8->Option (List UInt8):=fun t=>if t=s then v else f t
structure Calm (d:Sd):Prop where
 wf:d.Wf
 dead:d.dead=false
 stop:d.stop=0
 fail:d.fail=0
 inj:∀p∈d.names,∀q∈d.names,p.2=q.2->p.1=q.1
structure Small (d:Sd) (K:List (List UInt8)) (B:Nat):Prop where
 names:∀s x,cont d s=some x->s∈K
 len:∀s x,cont d s=some x->x.length<=B
namespace Calm
variable {d:Sd} {s:List UInt8}
theorem new (q:Int) (C:q<=1099511627776):Calm (Sd.new q):=⟨Sd.ux4 q C,rfl,rfl,rfl,fun p E=>by cases E⟩
theorem cq2 (q:Int):cont (Sd.new q)=fun _=>none:=rfl
theorem call (h:Calm d) {l:List (List UInt8)} (C:l.all Sd.named=true):d.call l=({ d with calls:=RowKit.wrap64 (d.calls+1) },0):=by
 unfold Sd.call;rw[if_neg (by simp[C])];simp only[h.dead,h.stop,h.fail];rfl
theorem iz3 {x:List UInt8} (C:cont d s=some x):∃i,d.names.get s=some i/\(d.files.getD i ([],0)).1=x:=by
 unfold cont at C
 cases E:d.names.get s with
 |none=>rw[E]at C;cases C
 |some i=>rw[E]at C;injection C with C;exact⟨i,rfl,C⟩
theorem get_none (C:cont d s=none):d.names.get s=none:=by
 unfold cont at C
 cases E:d.names.get s with
 |none=>rfl
 |some i=>rw[E]at C;cases C
theorem ok5 (h:Calm d) (n:Int):Calm { d with calls:=n }:=by
 obtain⟨⟨E,H,a3,I,J,O,Q,U,b1,b2,Z,a9,C⟩,c1,c2,c3,c4⟩:=h;exact⟨⟨E,H,a3,I,J,O,Q,U,b1,b2,Z,a9,C⟩,c1,c2,c3,c4⟩
theorem rx4 (h:Calm d) (hs:Sd.named s=true) (C:cont d s=none):(d.read s).2=11:=by
 unfold Sd.read;rw[if_neg (by simp[hs]),if_neg (by simp[h.dead]),get_none C]
theorem create (h:Calm d) (hs:Sd.named s=true) (Q:cont d s=none) (Z:d.names.length < 64):(d.create s).2=0/\Calm (d.create s).1/\cont (d.create s).1=upd (cont d) s (some [])/\(d.create s).1.quota=d.quota:=by
 have O:=h.wf.create s;have U:=get_none Q;have e:d.create s=({ d with calls:=RowKit.wrap64 (d.calls+1),names:=d.names.put s d.files.length,turns:=d.turns++[⟨1,d.files.length,s,[]⟩],files:=d.files++[([],0)] },0):=by
  unfold Sd.create;rw[h.call (by simpa using hs)];simp only[ne_eq,not_true_eq_false,if_false,U,cf_,af_];rw[if_neg o_]
 rw[e]at O ⊢;refine⟨rfl,⟨O,h.dead,h.stop,h.fail,fun p C q E H=>?_⟩,?_,rfl⟩
 ·rcases Nm.xy.1 C with rfl|⟨C,_⟩ <;>rcases Nm.xy.1 E with rfl|⟨E,_⟩
  ·rfl
  ·have:=h.wf.names q E
   simp only at H;omega
  ·have:=h.wf.names p C
   simp only at H;omega
  ·exact h.inj p C q E H
 ·funext t
  unfold cont upd
  dsimp only
  by_cases I:t=s
  ·subst I
   rw[if_pos rfl,Nm.aq2 h.wf.apart];simp
  ·rw[if_neg I,Nm.kj1 h.wf.apart I]
   cases J:d.names.get t with
   |none=>rfl
   |some i=>
    have hi:=h.wf.names _ (Nm.get_mem J);simp only at hi;simp[B_,O_ hi]
theorem qy3 (h:Calm d) {i:Nat} (C:d.names.get s=some i) (f:List UInt8×Nat):cont { d with files:=d.files.set i f }=upd (cont d) s (some f.1):=by
 funext t
 have hi:i < d.files.length:=h.wf.names _ (Nm.get_mem C);unfold cont upd
 dsimp only
 by_cases E:t=s
 ·subst E
  rw[if_pos rfl,C];simp[B_,hi]
 ·rw[if_neg E]
  cases H:d.names.get t with
  |none=>rfl
  |some j=>
   have I:i≠j:=fun e=>E ((h.inj _ (Nm.get_mem H) _ (Nm.get_mem C) (by simp[e])));simp[B_,List.getElem?_set,I]
theorem append (h:Calm d) (hs:Sd.named s=true) {x:List UInt8} (H:cont d s=some x) (b:List UInt8) (h1:x.length+b.length<=250000) (h2:d.used+b.length<=d.quota):(d.append s b).2=0/\Calm (d.append s b).1/\cont (d.append s b).1=upd (cont d) s (some (x++b))/\(d.append s b).1.quota=d.quota:=by
 have C:=h.wf.append s b;obtain⟨i,E,I⟩:=iz3 H;have e:d.append s b=({ d with calls:=RowKit.wrap64 (d.calls+1),files:=d.files.set i (x++b,(d.files.getD i ([],0)).2) },0):=by
  unfold Sd.append;rw[h.call (by simpa using hs)];simp only[ne_eq,not_true_eq_false,if_false,E];unfold Sd.size;rw[I,if_neg o_,if_neg o_]
 rw[e]at C ⊢;refine⟨rfl,⟨C,h.dead,h.stop,h.fail,h.inj⟩,?_,rfl⟩;exact(h.ok5 (RowKit.wrap64 (d.calls+1))).qy3 E _
theorem sync (h:Calm d) (hs:Sd.named s=true) {x:List UInt8} (C:cont d s=some x):(d.sync s).2=0/\Calm (d.sync s).1/\cont (d.sync s).1=cont d/\(d.sync s).1.quota=d.quota:=by
 have E:=h.wf.sync s;obtain⟨i,H,I⟩:=iz3 C;have e:d.sync s=({ d with calls:=RowKit.wrap64 (d.calls+1),files:=d.files.set i (x,d.size i) },0):=by
  unfold Sd.sync;rw[h.call (by simpa using hs)];simp only[ne_eq,not_true_eq_false,if_false,H];rw[I]
 rw[e]at E ⊢;refine⟨rfl,⟨E,h.dead,h.stop,h.fail,h.inj⟩,?_,rfl⟩;have h2:=(h.ok5 (RowKit.wrap64 (d.calls+1))).qy3 H (x,d.size i);refine h2.trans ?_
 funext t
 unfold upd;split
 ·subst_vars;exact C.symm
 ·rfl
theorem nw1 (h:Calm d) {K:List (List UInt8)} {B:Nat} (I:Small d K B):d.names.length<=K.length/\d.used<=K.length *B:=by
 have key:∀(m:Nm) (K:List (List UInt8)),Nm.Apart m->(∀p∈m,p.1∈K/\d.size p.2<=B)->m.length<=K.length/\(m.map fun p=>d.size p.2).sum<=K.length *B:=by
  intro m
  induction m with
  |nil=>intro K _ _;simp
  |cons p r Q=>
   intro K U E;obtain⟨h1,h2⟩:=U_.1 U;obtain⟨C,hs⟩:=E p s_;have Z:=List.length_erase_of_mem C;have J:0 < K.length:=List.length_pos_of_mem C;obtain⟨i1,i2⟩:=Q (K.erase p.1) h2 (fun q H=>⟨by
    have:=(E q (by simp[H])).1;exact(List.mem_erase_of_ne (fun e=>h1 q H e.symm)).2 this,(E q (by simp[H])).2⟩)
   rw[Z]at i1 i2;refine⟨by simp;omega,?_⟩;simp only[Z_,aI_];have e:K.length *B=(K.length - 1)*B+B:=by
    conv=>lhs;rw[show K.length=(K.length - 1)+1 by omega,bu_,Nat.one_mul]
   omega
 refine key d.names K h.wf.apart (fun p C=>?_);have hg:=Nm.yq1 h.wf.apart (s:=p.1) (i:=p.2) (by simpa using C);have O:cont d p.1=some (d.files.getD p.2 ([],0)).1:=by unfold cont;rw[hg];rfl
 exact⟨I.names _ _ O,I.len _ _ O⟩
theorem write (h:Calm d) (hs:Sd.named s=true) (O:cont d s=none) {K:List (List UInt8)} {B:Nat} (E:Small d K B) (hK:K.length < 64) (b:List UInt8) (h1:b.length<=250000) (h2:(K.length+1)*B+b.length<=d.quota):
  (d.write s b).2=0/\Calm (d.write s b).1/\cont (d.write s b).1=upd (cont d) s (some b)/\(d.write s b).1.quota=d.quota:=by
 obtain⟨l1,l2⟩:=h.nw1 E;obtain⟨c1,c2,c3,c4⟩:=h.create hs O o_;have H:Small (d.create s).1 (s::K) B:=⟨fun t x C=>by
  rw[c3]at C;unfold upd at C;split at C
  ·subst_vars;simp
  ·exact e_ _ (E.names t x C),fun t x C=>by
  rw[c3]at C;unfold upd at C;split at C
  ·injection C with C;subst C;simp
  ·exact E.len t x C⟩
 obtain⟨_,Q⟩:=c2.nw1 H;have I:cont (d.create s).1 s=some []:=by rw[c3,upd,if_pos rfl]
 simp only[q_]at Q;obtain⟨U,Z,a3,a4⟩:=c2.append hs I b (by simp;exact h1) (by rw[c4];omega);have J:cont ((d.create s).1.append s b).1 s=some b:=by rw[a3,upd,if_pos rfl];rfl
 obtain⟨b1,b2,b3,b4⟩:=Z.sync hs J;unfold Sd.write;rw[if_neg (by simp[c1]),if_neg (by simp[U])];refine⟨b1,b2,?_,b4.trans (a4.trans c4)⟩;rw[b3,a3,c3]
 funext t
 unfold upd;split<;>rfl
theorem remove (h:Calm d) (hs:Sd.named s=true) {x:List UInt8} (H:cont d s=some x):(d.remove s).2=0/\Calm (d.remove s).1/\cont (d.remove s).1=upd (cont d) s none/\(d.remove s).1.quota=d.quota:=by
 have E:=h.wf.remove s;obtain⟨i,I,U⟩:=iz3 H;have e:d.remove s=({ d with calls:=RowKit.wrap64 (d.calls+1),names:=d.names.del s,turns:=d.turns++[⟨3,0,s,[]⟩] },0):=by
  unfold Sd.remove;rw[h.call (by simpa using hs)];simp only[ne_eq,not_true_eq_false,if_false,I,bS_,af_];rfl
 rw[e]at E ⊢;refine⟨rfl,⟨E,h.dead,h.stop,h.fail,fun p J q O Q=>h.inj p (Nm.dv1.1 J).1 q (Nm.dv1.1 O).1 Q⟩,?_,rfl⟩
 funext t
 unfold cont upd
 dsimp only
 by_cases C:t=s
 ·subst C
  rw[if_pos rfl,Nm.ak2];rfl
 ·rw[if_neg C,Nm.sy1 h.wf.apart C]
theorem rename (h:Calm d) {a b:List UInt8} (ha:Sd.named a=true) (hb:Sd.named b=true) (J:a≠b) {x:List UInt8} (hc:cont d a=some x):(d.rename a b).2=0/\Calm (d.rename a b).1/\cont (d.rename a b).1=upd (upd (cont d) b (some x)) a none/\(d.rename a b).1.quota=d.quota:=by
 have hw:=h.wf.rename a b;obtain⟨i,O,hx⟩:=iz3 hc;have Q:Tn.go ⟨2,0,a,b⟩ d.names=(d.names.put b i).del a:=by unfold Tn.go;simp[O]
 have e:d.rename a b=({ d with calls:=RowKit.wrap64 (d.calls+1),names:=(d.names.put b i).del a,turns:=d.turns++[⟨2,0,a,b⟩] },0):=by
  unfold Sd.rename;rw[h.call (by simp[ha,hb])];simp only[ne_eq,not_true_eq_false,if_false,O,bS_,af_,J];rw[Q]
 rw[e]at hw ⊢;have U:=Nm.iw1 h.wf.apart b i;refine⟨rfl,⟨hw,h.dead,h.stop,h.fail,fun p E q H Z=>?_⟩,?_,rfl⟩
 ·obtain⟨E,a0⟩:=Nm.dv1.1 E
  obtain⟨H,a1⟩:=Nm.dv1.1 H;have I:=Nm.get_mem O
  rcases Nm.xy.1 E with rfl|⟨E,_⟩ <;>rcases Nm.xy.1 H with rfl|⟨H,_⟩
  ·rfl
  ·exact absurd (h.inj _ I q H (by simpa using Z)).symm a1
  ·exact absurd (h.inj p E _ I (by simpa using Z)) a0
  ·exact h.inj p E q H Z
 ·funext t
  unfold cont upd
  dsimp only
  by_cases ht:t=a
  ·subst ht
   rw[if_pos rfl,Nm.ak2];rfl
  ·rw[if_neg ht,Nm.sy1 U ht]
   by_cases C:t=b
   ·subst C
    rw[if_pos rfl,Nm.aq2 h.wf.apart];simp only[a3_];rw[hx]
   ·rw[if_neg C,Nm.kj1 h.wf.apart C]
theorem ax (h:Calm d):(d.ax).2=0/\Calm (d.ax).1/\cont (d.ax).1=cont d/\(d.ax).1.quota=d.quota:=by
 have C:=h.wf.ax;have e:d.ax=({ d with calls:=RowKit.wrap64 (d.calls+1),lasted:=d.names,turns:=[] },0):=by
  unfold Sd.ax;rw[h.call rfl];rfl
 rw[e]at C ⊢;exact⟨rfl,⟨C,h.dead,h.stop,h.fail,h.inj⟩,rfl,rfl⟩
theorem jy1 (h:Calm d):s∈d.list↔∃x,cont d s=some x:=by
 unfold Sd.list;rw[if_neg (by simp[h.dead]),List.mem_mergeSort];constructor
 ·intro E
  obtain⟨p,H,rfl⟩:=W_.1 E;have C:=Nm.yq1 h.wf.apart (s:=p.1) (i:=p.2) (by simpa using H);exact⟨_,by unfold cont;rw[C];rfl⟩
 ·rintro⟨x,I⟩
  obtain⟨i,C,_⟩:=iz3 I;exact W_.2 ⟨(s,i),Nm.get_mem C,rfl⟩
end Calm
structure Sv where
 M:Gs
 nm:List UInt8
 sz:Nat
 ct:Nat
 mem:List It
 tabs:List ((Int×Int)×List (List It))
 st:List It
 only:Bool
namespace St
def ry:List UInt8:=[108,111,103,46,49]
def ow4:List UInt8:=[109,97,110,46,49]
def dy1 (s:List UInt8):Bool:=(s==Mw.kCur||s==Mw.jw)||[Mn.kLog,Mn.kTab,Mn.kMan].any fun k=>(Mn.number s k).isSome
def isNone (S:Sd) (s:List UInt8):Bool:=(s==Mw.jw||s==ow4)||(s==ry&&(S.read s).1.length==0)
def pq4 (S:Sd):Bool:= !(S.list.any fun s=>dy1 s&&!isNone S s)
def wipe:List (List UInt8)->Sd->Sd×Nat
 |[],S=>(S,0)
 |s::r,S=>if dy1 s=true then (if (S.remove s).2=0 then wipe r (S.remove s).1 else S.remove s) else wipe r S
def first:Gs:=⟨[],⟨1,[],0,0,0,0⟩,0,false⟩
def create (S:Sd):Sd×Option Sv×Nat:=
 let a:=wipe S.list S
 if a.2≠0 then (a.1,none,a.2) else
 let b:=a.1.create ry
 if b.2≠0 then (b.1,none,b.2) else
 let c:=b.1.sync ry
 if c.2≠0 then (c.1,none,c.2) else
 let r:=Gw.rewrite c.1 first (Mn.name Mn.kMan 1)
 if r.2.2≠0 then (r.1,none,r.2.2) else (r.1,some ⟨r.2.1,ry,0,0,[],[],[],false⟩,0)
def number (S:Sd):Int:=max (Mn.greatest S.list Mn.kLog) (Mn.greatest S.list Mn.kTab)+1
def write (S:Sd) (l:List It):Sd×Nat:=
 if 1073741824 < number S then (S,65) else
 let s:=Mn.name Mn.kTab (number S)
 let a:=S.create s
 if a.2≠0 then a else
 let b:=a.1.append s (Tb.make l)
 if b.2≠0 then b else b.1.sync s
def fresh (S:Sd):Sd×Nat:=
 if 1073741824 < number S then (S,65) else
 let s:=Mn.name Mn.kLog (number S)
 let a:=S.create s
 if a.2≠0 then a else a.1.sync s
def saved (S:Sd) (V:Sv) (x:Ed):Sd×Sv×Nat:=
 let r:=Gw.save S V.M x
 (r.1,{ V with M:=r.2.1,only:=V.only||r.2.1.broken },r.2.2)
def turn (S:Sd) (V:Sv) (x:Ed) (D:Sv->Sv):Sd×Sv×Nat:=
 if S.ax.2≠0 then (S.ax.1,V,S.ax.2) else
 let r:=saved S.ax.1 V x
 if r.2.2=0\/r.2.1.only=true then (r.1,D r.2.1,r.2.2) else r
def live (V:Sv):List It:=V.mem.filter fun x=>decide (x∈V.st)
def turned (n:Int) (tabs:List ((Int×Int)×List (List It))) (V:Sv):Sv:={ V with nm:=Mn.name Mn.kLog n,sz:=0,ct:=0,mem:=[],tabs:=tabs }
def by1 (S:Sd) (V:Sv) (add:List (Int×Int)) (tabs:List ((Int×Int)×List (List It))):Sd×Sv×Nat:=
 let b:=fresh S
 if b.2≠0 then (b.1,V,b.2) else
 let r:=turn b.1 V ⟨[],add,number S,0,0,0,0⟩ (turned (number S) tabs)
 if r.2.2=0 then ((r.1.remove (Mn.name Mn.kLog V.M.v.log)).1,r.2.1,0) else r
def flush (S:Sd) (V:Sv):Sd×Sv×Nat:=
 if V.only=true then (S,V,14) else
 if V.ct=0 then (S,V,0) else
 if 30<=V.tabs.length then (S,V,65) else
 if live V=[] then by1 S V [] V.tabs else
 let a:=write S (live V)
 if a.2≠0 then (a.1,V,a.2) else by1 a.1 V [(0,number S)] (V.tabs++[((0,number S),Tb.rows (live V))])
def apply (S:Sd) (V:Sv) (l:List It):Sd×Sv×Nat:=
 if V.only=true then (S,V,14) else
 if l=[]\/l.all It.ok=false then (S,V,1) else
 if 1000 < l.length then (S,V,2) else
 if 1500 < (joins V.st l).length then (S,V,2) else
 let a:=S.append V.nm (Lg.batch l)
 if a.2≠0 then (a.1,V,a.2) else (a.1,{ V with sz:=V.sz+(Lg.batch l).length,ct:=V.ct+1,mem:=l.foldl wput V.mem,st:=joins V.st l },0)
end St
namespace Ls
def ins (x:List UInt8):List (List UInt8)->List (List UInt8)
 |[]=>[x]
 |y::r=>if decide (x<=y)=true then x::y::r else y::ins x r
def sort (l:List (List UInt8)):List (List UInt8):=l.foldr ins []
theorem vk2 (x:List UInt8):∀l,(ins x l).Perm (x::l)
 |[]=>List.Perm.refl _
 |y::r=>by
  unfold ins;split
  ·exact List.Perm.refl _
  ·exact((vk2 x r).cons y).trans (List.Perm.swap x y r)
theorem dq3:∀l,(sort l).Perm l
 |[]=>List.Perm.refl _
 |x::r=>by
  show (ins x (sort r)).Perm (x::r)
  exact(vk2 x _).trans ((dq3 r).cons x)
theorem ej2 {x z:List UInt8} {l:List (List UInt8)}:z∈ins x l↔z=x\/z∈l:=by rw[(vk2 x l).mem_iff,f_]
theorem nw5 (x:List UInt8):∀(l:List (List UInt8)),l.Pairwise (fun a b=>decide (a<=b)=true)->(ins x l).Pairwise (fun a b=>decide (a<=b)=true)
 |[],_=>a4_ _ _
 |y::r,h=>by
  obtain⟨h1,h2⟩:=U_.1 h;unfold ins;split
  ·rename_i C
   refine U_.2 ⟨fun z E=>?_,h⟩
   rcases f_.1 E with rfl|E
   ·exact C
   ·have q1:=of_decide_eq_true C
    have H:=of_decide_eq_true (h1 z E);exact decide_eq_true (List.le_trans q1 H)
  ·rename_i C
   refine U_.2 ⟨fun z E=>?_,nw5 x r h2⟩
   rcases ej2.1 E with rfl|E
   ·rcases List.le_total z y with q|q
    ·exact absurd (decide_eq_true q) C
    ·exact decide_eq_true q
   ·exact h1 z E
theorem qx4:∀l,(sort l).Pairwise (fun a b=>decide (a<=b)=true)
 |[]=>aY_
 |x::r=>nw5 x _ (qx4 r)
def list (d:Sd):List (List UInt8):=if d.dead=true then [] else sort (d.names.map (·.1))
theorem xv4:Sd.list=list:=by
 funext d
 unfold Sd.list list;split
 ·rfl
 ·have h1:=mergeSort_of_perm (dq3 (d.names.map (·.1))).symm
  have h2:=List.mergeSort_of_pairwise (qx4 (d.names.map (·.1)));exact h1.trans h2
section
variable (L:Sd->List (List UInt8))
def fin (d:Sd) (M:Gs) (nm:List UInt8):Sd×Gs×Nat:=
 if (d.ax).2≠0 then ((d.ax).1,{ M with name:=nm,count:=1,broken:=true },(d.ax).2)
 else (Mw.sweep nm (L (d.ax).1) (d.ax).1,{ M with name:=nm,count:=1 },0)
def ren (d:Sd) (M:Gs) (nm:List UInt8):Sd×Gs×Nat:=
 if (d.rename Mw.jw Mw.kCur).2≠0 then ((d.rename Mw.jw Mw.kCur).1,M,(d.rename Mw.jw Mw.kCur).2) else fin L (d.rename Mw.jw Mw.kCur).1 M nm
def sd1 (d:Sd) (M:Gs) (nm:List UInt8):Sd×Gs×Nat:=
 if (d.ax).2≠0 then ((d.ax).1,M,(d.ax).2) else ren L (d.ax).1 M nm
def hd (d:Sd) (M:Gs) (nm:List UInt8):Sd×Gs×Nat:=
 if (d.write Mw.jw (Mw.headB ((Mn.number nm Mn.kMan).getD 0))).2≠0 then ((d.write Mw.jw (Mw.headB ((Mn.number nm Mn.kMan).getD 0))).1,M,(d.write Mw.jw (Mw.headB ((Mn.number nm Mn.kMan).getD 0))).2)
 else sd1 L (d.write Mw.jw (Mw.headB ((Mn.number nm Mn.kMan).getD 0))).1 M nm
def tmp (d:Sd) (M:Gs) (nm:List UInt8):Sd×Gs×Nat:=
 if (d.read Mw.jw).2=0 then
  if (d.remove Mw.jw).2≠0 then ((d.remove Mw.jw).1,M,(d.remove Mw.jw).2) else hd L (d.remove Mw.jw).1 M nm
 else hd L d M nm
def rewrite (d:Sd) (M:Gs) (nm:List UInt8):Sd×Gs×Nat:=
 if (d.write nm M.v.whole.rec_).2≠0 then ((d.write nm M.v.whole.rec_).1,M,(d.write nm M.v.whole.rec_).2)
 else tmp L (d.write nm M.v.whole.rec_).1 M nm
def create (S:Sd):Sd×Option Sv×Nat:=
 let a:=St.wipe (L S) S
 if a.2≠0 then (a.1,none,a.2) else
 let b:=a.1.create St.ry
 if b.2≠0 then (b.1,none,b.2) else
 let c:=b.1.sync St.ry
 if c.2≠0 then (c.1,none,c.2) else
 let r:=rewrite L c.1 St.first (Mn.name Mn.kMan 1)
 if r.2.2≠0 then (r.1,none,r.2.2) else (r.1,some ⟨r.2.1,St.ry,0,0,[],[],[],false⟩,0)
def number (S:Sd):Int:=max (Mn.greatest (L S) Mn.kLog) (Mn.greatest (L S) Mn.kTab)+1
def write (S:Sd) (l:List It):Sd×Nat:=
 if 1073741824 < number L S then (S,65) else
 let s:=Mn.name Mn.kTab (number L S)
 let a:=S.create s
 if a.2≠0 then a else
 let b:=a.1.append s (Tb.make l)
 if b.2≠0 then b else b.1.sync s
def fresh (S:Sd):Sd×Nat:=
 if 1073741824 < number L S then (S,65) else
 let s:=Mn.name Mn.kLog (number L S)
 let a:=S.create s
 if a.2≠0 then a else a.1.sync s
def by1 (S:Sd) (V:Sv) (add:List (Int×Int)) (tabs:List ((Int×Int)×List (List It))):Sd×Sv×Nat:=
 let b:=fresh L S
 if b.2≠0 then (b.1,V,b.2) else
 let r:=St.turn b.1 V ⟨[],add,number L S,0,0,0,0⟩ (St.turned (number L S) tabs)
 if r.2.2=0 then ((r.1.remove (Mn.name Mn.kLog V.M.v.log)).1,r.2.1,0) else r
def flush (S:Sd) (V:Sv):Sd×Sv×Nat:=
 if V.only=true then (S,V,14) else
 if V.ct=0 then (S,V,0) else
 if 30<=V.tabs.length then (S,V,65) else
 if St.live V=[] then by1 L S V [] V.tabs else
 let a:=write L S (St.live V)
 if a.2≠0 then (a.1,V,a.2) else by1 L a.1 V [(0,number L S)] (V.tabs++[((0,number L S),Tb.rows (St.live V))])
end
theorem gj2 (S:Sd):St.create S=create list S:=by rw[<-xv4];rfl
theorem gk5 (S:Sd) (V:Sv):St.flush S V=flush list S V:=by rw[<-xv4];rfl
end Ls
theorem ux1 {α:Type} [BEq α] [LawfulBEq α] (f:α->Nat) {a:α}:∀{K:List α},a∈K->(K.map f).sum=f a+((K.erase a).map f).sum
 |b::K,h=>by
  by_cases e:b=a
  ·subst e;simp
  ·have C:a∈K:=(f_.1 h).resolve_left fun q=>e q.symm
   rw[List.erase_cons_tail (by simpa using e),Z_,aI_,ux1 f C,Z_,aI_];omega
theorem Calm.weigh {d:Sd} (h:Calm d) {K:List (List UInt8×Nat)} (Q:∀s x,cont d s=some x->∃B,(s,B)∈K/\x.length<=B):d.names.length<=K.length/\d.used<=(K.map (·.2)).sum:=by
 have key:∀(m:Nm) (K:List (List UInt8×Nat)),Nm.Apart m->(∀p∈m,∃B,(p.1,B)∈K/\d.size p.2<=B)->m.length<=K.length/\(m.map fun p=>d.size p.2).sum<=(K.map (·.2)).sum:=by
  intro m
  induction m with
  |nil=>intro K _ _;simp
  |cons p r U=>
   intro K Z I;obtain⟨h1,h2⟩:=U_.1 Z;obtain⟨B,E,hs⟩:=I p s_;have hl:=List.length_erase_of_mem E;have J:0 < K.length:=List.length_pos_of_mem E;obtain⟨i1,i2⟩:=U (K.erase (p.1,B)) h2 (fun q O=>by
    obtain⟨C,hC,H⟩:=I q (by simp[O]);refine⟨C,(List.mem_erase_of_ne fun e=>?_).2 hC,H⟩;exact h1 q O (congrArg Prod.fst e).symm)
   rw[hl]at i1;refine⟨by simp;omega,?_⟩;rw[Z_,aI_,ux1 (·.2) E];omega
 refine key d.names K h.wf.apart (fun p E=>?_);have hg:=Nm.yq1 h.wf.apart (s:=p.1) (i:=p.2) (by simpa using E);have hc:cont d p.1=some (d.files.getD p.2 ([],0)).1:=by unfold cont;rw[hg];rfl
 exact Q _ _ hc
theorem Calm.bz5 {S S2:Sd} (h2:Calm S2) {s x:List UInt8} {o:Option (List UInt8)} (e:cont S2=upd (cont S) s o) (I:∀y,o=some y->y.length<=x.length):S2.used<=S.used+x.length/\S2.names.length<=S.names.length+1:=by
 obtain⟨K,H⟩:∃K:List (List UInt8×Nat),K=(s,x.length)::S.names.map fun p=>(p.1,S.size p.2):=⟨_,rfl⟩;obtain⟨a,b⟩:=h2.weigh (K:=K) (fun t y C=>by
  rw[e,upd]at C;rw[H];split at C
  ·subst_vars
   exact⟨x.length,by simp,I y rfl⟩
  ·unfold cont at C
   cases E:S.names.get t with
   |none=>rw[E]at C;cases C
   |some i=>
    rw[E]at C;have C:=ai_ C;refine⟨S.size i,.tail _ (W_.2 ⟨(t,i),Nm.get_mem E,rfl⟩),?_⟩;rw[<-C];exact y_ _)
 rw[H]at a b;simp only[q_,F_,Z_,aI_,aK_]at a b;have:S.used=(S.names.map ((fun p:List UInt8×Nat=>p.2) ∘ fun p=>(p.1,S.size p.2))).sum:=rfl;omega
theorem Calm.iq4 {S S2:Sd} (h2:Calm S2) (e:cont S2=cont S):S2.used<=S.used/\S2.names.length<=S.names.length:=by
 obtain⟨a,b⟩:=h2.weigh (K:=S.names.map fun p=>(p.1,S.size p.2)) (fun t y C=>by
  rw[e]at C;unfold cont at C
  cases E:S.names.get t with
  |none=>rw[E]at C;cases C
  |some i=>
   rw[E]at C;have C:=ai_ C;refine⟨S.size i,W_.2 ⟨(t,i),Nm.get_mem E,rfl⟩,?_⟩;rw[<-C];exact y_ _)
 simp only[F_,aK_]at a b;exact⟨b,a⟩
end Go.Proofs.YtkdbagdiplpcfaaGreatDoor
