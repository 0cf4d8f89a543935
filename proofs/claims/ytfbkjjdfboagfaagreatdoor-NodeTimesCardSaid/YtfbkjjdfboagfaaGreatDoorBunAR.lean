/- Some of the texts. No conditions. -/
import Derived.Test.YtfbkjjdfboagfaaGreatDoorBunAK

set_option linter.unusedSimpArgs false
set_option linter.unusedVariables false
set_option maxRecDepth 100000
set_option maxHeartbeats 16000000
namespace Go.Proofs.YtfbkjjdfboagfaaGreatDoor
open Go.Proofs.Tryz Go Go.RowKit Go.Lib Go.Shelf
section
open Go.Maps
variable {w w1 w2:World} {m:Nat} {P:Sl} {M:Gs} {xd:Nat}
theorem tj2 {l:List Bool} {i:Nat} (h:l[i]?=some false):(l.set i true).count true=l.count true+1:=by
 induction l generalizing i with
 |nil=>simp at h
 |cons b l o=>
  cases i with
  |zero=>
   simp at h;subst h;simp
  |succ i=>
   have:=o (i:=i) (by simpa using h);simp only[Q_,List.count_cons];omega
theorem uz {L:Array Bool} {i j:Nat} (hi:i < L.size):(L.setIfInBounds i true).getD j false=if i=j then true else L.getD j false:=by
 simp only[aB_,Array.getElem?_setIfInBounds];split
 ·subst_vars
  simp[hi]
 ·rfl
def St.keeps (M:Gs) (s:List UInt8):Bool:=(s==Mw.kCur||s==M.name)||s==Mn.name Mn.kLog M.v.log
def dq6 (L:Array Bool) (nm ln:List UInt8) (Mm:Nm):Prop:=∀s,Mm.get s=if ((L.getD 1 false&&s==Mw.kCur)||(L.getD 4 false&&s==nm))||(L.getD 8 false&&s==ln) then some 1 else none
structure NmJ (w:World) (nm ln:List UInt8) (vb m:Nat) (lg:Int) (L:Array Bool) (u5 u8 u9 u10 u11 u12 u13 u14:Value) (w':World):Prop where
 b:Below w w w'
 g0:L.getD 0 false=true->∃b n Mm,u8=.map (some b)/\(w:Nat)<=b/\uy w' b n Mm/\n<=L.toList.count true/\dq6 L nm ln Mm
 g1:L.getD 0 false=false->(L.getD 1 false=false/\L.getD 4 false=false/\L.getD 8 false=false)/\L.getD 9 false=false/\L.getD 10 false=false
 g2:L.getD 2 false=true->u9=.pointer (some m)
 g3:L.getD 3 false=true->u10=.string (str nm)
 g5:L.getD 5 false=true->u11=.pointer (some vb)
 g6:L.getD 6 false=true->u12=.int .i64 lg
 g7:L.getD 7 false=true->u13=.string (str ln)
 g9:L.getD 9 false=true->u14=u8
 g10:L.getD 10 false=true->u5=u8
variable {nm ln:List UInt8} {vb:Nat} {lg:Int} {L:Array Bool} {u5 u8 u9 u10 u11 u12 u13 u14:Value}
theorem NmJ.rx3 (h:NmJ w nm ln vb m lg L u5 u8 u9 u10 u11 u12 u13 u14 w1) {i:Nat} (hi:i < L.size) (h2:L.getD i false=false) (hb:Below w1 w1 w2) (hn:i≠0/\i≠1/\i≠4/\i≠8) (h9:i=9\/i=10->L.getD 0 false=true) {O Q z C E H I:Value}
  (q2:if i=2 then Q=.pointer (some m) else Q=u9) (q3:if i=3 then z=.string (str nm) else z=u10) (q5:if i=5 then C=.pointer (some vb) else C=u11)
  (q6:if i=6 then E=.int .i64 lg else E=u12) (q7:if i=7 then H=.string (str ln) else H=u13) (q9:if i=9 then I=u8 else I=u14) (J:if i=10 then O=u8 else O=u5):
  NmJ w nm ln vb m lg (L.setIfInBounds i true) O u8 Q z C E H I w2:=by
 have hc:L.toList.count true<=(L.setIfInBounds i true).toList.count true:=by
  have h3:L.toList[i]?=some false:=by
   rw[aB_,aa_ hi]at h2;rw[bA_,aa_ hi];simpa using h2
  rw[bF_,tj2 h3];omega
 obtain⟨n0,n1,n4,n8⟩:=hn;refine⟨az h.b hb,fun e=>?_,fun e=>?_,fun e=>?_,fun e=>?_,fun e=>?_,fun e=>?_,fun e=>?_,fun e=>?_,fun e=>?_⟩
 all_goals rw[uz hi]at e
 ·rw[if_neg n0]at e
  obtain⟨b,n,Mm,e1,e2,e3,e4,e5⟩:=h.g0 e;refine⟨b,n,Mm,e1,e2,xy (G:=[]) e3 (Chg.of_below hb []) s_,o_,fun s=>?_⟩;rw[e5 s,uz hi,uz hi,uz hi,if_neg n1,if_neg n4,if_neg n8]
 ·rw[if_neg n0]at e
  have hh:i≠9/\i≠10:=⟨fun U=>(by rw[h9 (.inl U)]at e;cases e),fun U=>(by rw[h9 (.inr U)]at e;cases e)⟩;rw[uz hi,uz hi,uz hi,uz hi,uz hi,if_neg n1,if_neg n4,if_neg n8,if_neg hh.1,if_neg hh.2];exact h.g1 e
 all_goals
  split at e
  ·subst_vars
   simp
  ·rename_i o
   first
    |(rw[if_neg o]at q2;rw[q2];exact h.g2 e)
    |(rw[if_neg o]at q3;rw[q3];exact h.g3 e)
    |(rw[if_neg o]at q5;rw[q5];exact h.g5 e)
    |(rw[if_neg o]at q6;rw[q6];exact h.g6 e)
    |(rw[if_neg o]at q7;rw[q7];exact h.g7 e)
    |(rw[if_neg o]at q9;rw[q9];exact h.g9 e)
    |(rw[if_neg o]at J;rw[J];exact h.g10 e)
theorem NmJ.made (h:NmJ w nm ln vb m lg L u5 u8 u9 u10 u11 u12 u13 u14 w1) (hi:0 < L.size) (h2:L.getD 0 false=false) {b:Nat} (z:(w1:Nat)<=b) (C:Below w1 w1 w2) (E:uy w2 b 0 []):
  NmJ w nm ln vb m lg (L.setIfInBounds 0 true) u5 (.map (some b)) u9 u10 u11 u12 u13 u14 w2:=by
 obtain⟨⟨c1,c4,c8⟩,H,o⟩:=h.g1 h2;refine⟨az h.b C,fun _=>⟨b,0,[],rfl,g_ h.b.size z,E,A_ _,fun s=>?_⟩,fun e=>?_,fun e=>?_,fun e=>?_,fun e=>?_,fun e=>?_,fun e=>?_,fun e=>?_,fun e=>?_⟩
 ·rw[uz hi,uz hi,uz hi]
  simp[c1,c4,c8,Nm.get]
 all_goals rw[uz hi]at e
 ·simp at e
 all_goals rw[if_neg (by decide)]at e
 ·exact h.g2 e
 ·exact h.g3 e
 ·exact h.g5 e
 ·exact h.g6 e
 ·exact h.g7 e
 ·rw[H]at e;cases e
 ·rw[o]at e;cases e
theorem NmJ.put (h:NmJ w nm ln vb m lg L u5 u8 u9 u10 u11 u12 u13 u14 w1) {i:Nat} (hi:i < L.size) (h2:L.getD i false=false) (I:L.getD 0 false=true) (s:List UInt8) (C:(i=1/\s=Mw.kCur)\/(i=4/\s=nm)\/(i=8/\s=ln)) {b n:Nat} {Mm:Nm}
  (E:(w:Nat)<=b) (J:u8=.map (some b)) (O:dq6 L nm ln Mm) (hc:n<=L.toList.count true) (H:Nm.Apart Mm) (c:Chg [b] w1 w2) (Q:uy w2 b (n+1) (Mm.put s 1)):
  NmJ w nm ln vb m lg (L.setIfInBounds i true) u5 u8 u9 u10 u11 u12 u13 u14 w2:=by
 have h3:L.toList[i]?=some false:=by
  rw[aB_,aa_ hi]at h2;rw[bA_,aa_ hi];simpa using h2
 have U:(L.setIfInBounds i true).toList.count true=L.toList.count true+1:=by rw[bF_,tj2 h3]
 refine⟨h.b.trans (c.below h.b.size (by simpa using E)),fun e=>⟨b,n+1,Mm.put s 1,J,E,Q,o_,fun t=>?_⟩,fun e=>?_,fun e=>?_,fun e=>?_,fun e=>?_,fun e=>?_,fun e=>?_,fun e=>?_,fun e=>?_⟩
 ·by_cases o:t=s
  ·subst o
   rw[Nm.cj1 H,if_pos];rw[uz hi,uz hi,uz hi]
   rcases C with ⟨rfl,rfl⟩|⟨rfl,rfl⟩|⟨rfl,rfl⟩ <;>simp
  ·rw[Nm.ry H o,O t,uz hi,uz hi,uz hi]
   rcases C with ⟨rfl,rfl⟩|⟨rfl,rfl⟩|⟨rfl,rfl⟩ <;>simp[o,h2]
 all_goals
  rw[uz hi]at e;have z:∀k,k≠1->k≠4->k≠8->i≠k:=fun k k1 k4 k8=>o_
  rw[if_neg (z _ (by decide) (by decide) (by decide))]at e
 ·rw[I]at e;cases e
 ·exact h.g2 e
 ·exact h.g3 e
 ·exact h.g5 e
 ·exact h.g6 e
 ·exact h.g7 e
 ·exact h.g9 e
 ·exact h.g10 e
theorem kj2 {b n:Nat} {Mm:Nm} (h:uy w b n Mm) (H:n < maxLen) (s:List UInt8) (I:s.length<=maxLen) (k:Nat) (Q:k<=9223372036854775807):∃w',(Instr.mapUpdate 45 (.map (some b)) (.string (str s)) (.int .i64 k)).run prog w=.ok () w'/\uy w' b (n+1) (Mm.put s k)/\Chg [b] w w':=by
 have z:keyOf prog 9 (.string (str s))=some (.string s):=by rw[cz4 (by rw[jy];exact I),kz]
 have C:(Lit.int .i64 k).wf=true:=WalkArith.wf_i64 o_;obtain⟨w',o,E,J⟩:=World.ownsMap.update h nz1 underlying45 H z (plainElem_int underlying3 C);rw[Nm.vj2]at E;exact⟨w',o,E,Chg.qy J (fun b O=>by cases O;simp)⟩
theorem ax4 (n:Int):(Mn.name Mn.kLog n).length<=1000:=by
 by_cases h:(Mn.fits n&&Mn.isKind Mn.kLog)=true
 ·have:=ey1 (Mn.sw2 h)
  omega
 ·unfold Mn.name
  rw[if_neg h];simp
def gy3 (w:World) (M:Gs) (e:Ending) (w':World):Prop:=∃b n Mm,e=.returned (.map (some b))/\uy w' b n Mm/\(w:Nat)<=b/\(∀s,Mm.get s=if St.keeps M s=true then some 1 else none)/\Below w w w'
theorem ky4 {f c a l:Nat} (A:Option Addr) (cp:Nat) (d4:0<=M.v.log/\M.v.log<=1073741824) (he:Env w) (hk:GK w m xd M P) (d5:M.name.length<=1000):
  Calls prog 114 #[.agg #[M.v.log,.slice A 0 cp,[f],[c],[a],[l]],m] w (gy3 w M):=by
 have e6:=@run_makeMap prog;have b1:=b_ w (.cells #[M.v.log,.slice A 0 cp,[f],[c],[a],[l]] 106);have b2:=BoxO.new w #[M.v.log,.slice A 0 cp,[f],[c],[a],[l]] 106;have b3:∀W,Below w w W->Calls prog 180 #[m] W fun e w'=>e=.returned (.string (str M.name))/\W=w':=fun W O=>kv4 xd (hk.below O);have b5:∀W,Below w w W->Calls prog 40 #[.string { data:=#[108,111,103] },M.v.log] W fun e w'=>e=.returned (.string (str (Mn.name Mn.kLog M.v.log)))/\Below W.heap.size W w':=fun W O=>name_any (str Mn.kLog) (by decide) M.v.log o_ W (he.below O);have b6:=H_ b3;have b7:=H_ b5;have a6:=H_ b2;have H:=H_ b1;have b8:Hid (M.name.length<=maxLen):=H_ (by unfold maxLen;omega);have b9:Hid ((Mn.name Mn.kLog M.v.log).length<=maxLen):=H_ (by have:=ax4 M.v.log;unfold maxLen;omega);clear b3 b5 b2 b1 he hk d4 d5;go_enter func114,ntmps114;go_upto_region 1 with (fail)
 go_cut [5] from 8 (fun s w'=>∃b n Mm,s=.map (some b)/\uy w' b n Mm/\(w:Nat)<=b/\(∀s,Mm.get s=if St.keeps M s=true then some 1 else none)/\Below w w w'/\BoxO w' 106 (w:Nat) [M.v.log,.slice A 0 cp,[f],[c],[a],[l]])
 case first=>
  rename_i JJ KK hJ hK;have HK:=H_ (d_ hJ hK);clear hJ hK;generalize hW:w.alloc (.cells #[M.v.log,.slice A 0 cp,[f],[c],[a],[l]] 106)=W at *;refine zz2 (by kernel_rfl) (fun L ac w'=>∃u5 u8 u9 u10 u11 u12 u13 u14,ac=⟨#[.agg #[M.v.log,.slice A 0 cp,[f],[c],[a],[l]],m,(w:Nat),undef,.map none,u5,undef,undef,u8,u9,u10,u11,u12,u13,u14,undef,undef,undef,undef,undef,undef,undef,undef,undef,undef,undef,undef,undef,undef,undef],[]⟩/\NmJ W M.name (Mn.name Mn.kLog M.v.log) w m M.v.log L u5 u8 u9 u10 u11 u12 u13 u14 w') ?_ ?_ ?_
  ·refine⟨_,_,_,_,_,_,_,_,rfl,b0_.drew,?_,?_,?_,?_,?_,?_,?_,?_,?_⟩
   all_goals simp
  ·rintro L ac w1 i hz ⟨u5,u8,u9,u10,u11,u12,u13,u14,rfl,hj⟩ hr
   obtain⟨hi,h2,h3⟩:=uq1.1 hr;replace hi:i < 11:=hi;replace hz:L.size=11:=hz;have b':L.getD i false=false:=by
    have d7:i < L.size:=o_
    rw[aB_,aa_ d7]at h2 ⊢;simpa using h2
   have a5:L.toList.count true<=11:=by
    have h4:=List.count_le_length (a:=true) (l:=L.toList);rw[Array.length_toList]at h4;omega
   have E:=H_ (d_ hz b');have HC:=H_ (show L.toList.count true<=11 from a5);have z:=H_ hj;clear hr h2 b' hz hj a5;have hi:i=0\/i=1\/i=2\/i=3\/i=4\/i=5\/i=6\/i=7\/i=8\/i=9\/i=10:=o_
   rcases hi with rfl|rfl|rfl|rfl|rfl|rfl|rfl|rfl|rfl|rfl|rfl
   all_goals
    simp[Region.binds]at h3;refine wpOp_step rfl (fun K' c9=>?_);have C:=H_ c9;clear c9
   case inl=>
    go_simp;exact C.out _ _ ⟨_,_,_,_,_,_,_,_,rfl,z.made (by rw[E.1];omega) E.2 l_ (b_ _ _) (yk1 (heap_alloc_new _ _))⟩
   all_goals try simp only[<-aB_]at h3
   case inr.inl=>
    obtain⟨b,n,Mm,rfl,O,Q,hc,hg⟩:=z.g0 h3;obtain⟨w2,o,I,J⟩:=kj2 Q (by have:=HC.out;unfold maxLen;omega) Mw.kCur (by decide) 1 o_;have U:(Instr.mapUpdate 45 (.map (some b)) (.string { data:=#[99,117,114,114,101,110,116] }) (.int .i64 1)).run prog w1=.ok () w2:=o;have HZ:=H_ (z.put (by rw[E.1];omega) E.2 h3 Mw.kCur (.inl ⟨rfl,rfl⟩) O rfl hg hc (lj1 Q) J I);clear I J o;go_simp;exact C.out _ _ ⟨_,_,_,_,_,_,_,_,rfl,HZ⟩
   case inr.inr.inl=>
    go_simp;exact C.out _ _ ⟨_,_,_,_,_,_,_,_,rfl,z.rx3 (by rw[E.1];omega) E.2 b0_ (by decide) (fun e=>o_) rfl rfl rfl rfl rfl rfl rfl⟩
   case inr.inr.inr.inl=>
    obtain rfl:=z.g2 h3;have HM:=H_ (b6.out w1 (H.trans (z.b.mono H.size)));go_simp;refine HM.mono ?_;rintro e w2 ⟨rfl,rfl⟩;go_simp;exact C.out _ _ ⟨_,_,_,_,_,_,_,_,rfl,z.rx3 (by rw[E.1];omega) E.2 b0_ (by decide) (fun e=>o_) rfl rfl rfl rfl rfl rfl rfl⟩
   case inr.inr.inr.inr.inl=>
    obtain rfl:=z.g3 h3.2;obtain⟨b,n,Mm,rfl,O,Q,hc,hg⟩:=z.g0 h3.1;obtain⟨w2,o,I,J⟩:=kj2 Q (by have:=HC.out;unfold maxLen;omega) M.name b8.out 1 o_;have U:(Instr.mapUpdate 45 (.map (some b)) (.string (str M.name)) (.int .i64 1)).run prog w1=.ok () w2:=o;have HZ:=H_ (z.put (by rw[E.1];omega) E.2 h3.1 M.name (.inr (.inl ⟨rfl,rfl⟩)) O rfl hg hc (lj1 Q) J I);clear I J o;go_simp;exact C.out _ _ ⟨_,_,_,_,_,_,_,_,rfl,HZ⟩
   case inr.inr.inr.inr.inr.inl=>
    go_simp;exact C.out _ _ ⟨_,_,_,_,_,_,_,_,rfl,z.rx3 (by rw[E.1];omega) E.2 b0_ (by decide) (fun e=>o_) rfl rfl rfl rfl rfl rfl rfl⟩
   case inr.inr.inr.inr.inr.inr.inl=>
    obtain rfl:=z.g5 h3;have v0:=(a6.below z.b).c0;go_simp;exact C.out _ _ ⟨_,_,_,_,_,_,_,_,rfl,z.rx3 (by rw[E.1];omega) E.2 b0_ (by decide) (fun e=>o_) rfl rfl rfl rfl rfl rfl rfl⟩
   case inr.inr.inr.inr.inr.inr.inr.inl=>
    obtain rfl:=z.g6 h3.1;have HM:=H_ (b7.out w1 (H.trans (z.b.mono H.size)));go_simp;refine HM.mono ?_;rintro e w2 ⟨rfl,d'⟩;go_simp;exact C.out _ _ ⟨_,_,_,_,_,_,_,_,rfl,z.rx3 (by rw[E.1];omega) E.2 d' (by decide) (fun e=>o_) rfl rfl rfl rfl rfl rfl rfl⟩
   case inr.inr.inr.inr.inr.inr.inr.inr.inl=>
    obtain rfl:=z.g7 h3.2;obtain⟨b,n,Mm,rfl,O,Q,hc,hg⟩:=z.g0 h3.1;obtain⟨w2,o,I,J⟩:=kj2 Q (by have:=HC.out;unfold maxLen;omega) (Mn.name Mn.kLog M.v.log) b9.out 1 o_;have U:(Instr.mapUpdate 45 (.map (some b)) (.string (str (Mn.name Mn.kLog M.v.log))) (.int .i64 1)).run prog w1=.ok () w2:=o;have HZ:=H_ (z.put (by rw[E.1];omega) E.2 h3.1 (Mn.name Mn.kLog M.v.log) (.inr (.inr ⟨rfl,rfl⟩)) O rfl hg hc (lj1 Q) J I);clear I J o;go_simp;exact C.out _ _ ⟨_,_,_,_,_,_,_,_,rfl,HZ⟩
   case inr.inr.inr.inr.inr.inr.inr.inr.inr.inl=>
    go_simp;exact C.out _ _ ⟨_,_,_,_,_,_,_,_,rfl,z.rx3 (by rw[E.1];omega) E.2 b0_ (by decide) (fun e=>h3.1) rfl rfl rfl rfl rfl rfl rfl⟩
   case inr.inr.inr.inr.inr.inr.inr.inr.inr.inr=>
    obtain rfl:=z.g9 h3.1;go_simp;exact C.out _ _ ⟨_,_,_,_,_,_,_,_,rfl,z.rx3 (by rw[E.1];omega) E.2 b0_ (by decide) (fun e=>h3.2.2.1) rfl rfl rfl rfl rfl rfl rfl⟩
  ·rintro L ac w1 hz ⟨u5,u8,u9,u10,u11,u12,u13,u14,rfl,hj⟩ hr
   have ha:=qw2 (by kernel_rfl) hz hr 11;have a0:L.getD 0 false=true:=ha 0 (by decide) (by decide);have a1:L.getD 1 false=true:=ha 1 (by decide) (by decide);have a4:L.getD 4 false=true:=ha 4 (by decide) (by decide);have a8:L.getD 8 false=true:=ha 8 (by decide) (by decide);obtain rfl:=hj.g10 (ha 10 (by decide) (by decide));obtain⟨b,n,Mm,rfl,O,Q,hc,hg⟩:=hj.g0 a0;have d1:∀s,Mm.get s=if St.keeps M s=true then some 1 else none:=fun s=>by
    rw[hg s,a1,a4,a8];simp only[cf_];rfl
   have h1:=H.trans (hj.b.mono H.size);exact HK.2 _ _ (Met.intro (HK.1 _ _ ⟨_,_,_,_,_,_,_,_,_,_,_,_,_,_,_,_,_,_,_,_,_,_,_,⟨b,n,Mm,rfl,Q,g_ H.size O,d1,h1,a6.below hj.b⟩,rfl⟩))
 case rest=>
  obtain⟨b,n,Mm,rfl,Q,O,hg,d2,hx⟩:=hcut;have c1:=hx.c1;have HZ:=H_ (d_ Q (d_ O (d_ hg d2)));clear Q O hg d2 hx b6 b7 a6 H b8 b9;go_wp2
  go_loopw [18] (fun i wr=>i=.int .i64 0/\wr=wc) (fun _ _=>0)
  case atStart=>exact⟨rfl,rfl⟩
  case round=>
   obtain⟨rfl,rfl⟩:=hrel;go_wp2;go_ret;exact⟨b,n,Mm,rfl,HZ⟩
end
section
end
namespace Crc
end Crc
namespace Fr
end Fr
namespace Gw
open Mn
open Mw (kCur gy headB sweep xx1)
theorem mv5 {d:Sd} (o:d.Wf) (M:Gs) (nm:List UInt8):(fin d M nm).1.load<=d.load+64:=by
 have h1:=Sd.cz1 d;have h2:=pw1 o.ak;have h3:=xx1 nm (d.ak).1.list (d.ak).1;unfold fin;split
 ·dsimp only;omega
 ·dsimp only;omega
theorem ly5 {d:Sd} (o:d.Wf) (M:Gs) (nm:List UInt8):(ren d M nm).1.load<=d.load+65:=by
 have h1:=Sd.jq2 d gy kCur;have h2:=mv5 (o.rename gy kCur) M nm;unfold ren;split
 ·dsimp only;omega
 ·omega
theorem mq5 {d:Sd} (o:d.Wf) (M:Gs) (nm:List UInt8):(sd1 d M nm).1.load<=d.load+65:=by
 have h1:=Sd.cz1 d;have h2:=ly5 o.ak M nm;unfold sd1;split
 ·dsimp only;omega
 ·omega
theorem tj4 {d:Sd} (o:d.Wf) (M:Gs) (nm:List UInt8):(hd d M nm).1.load<=d.load+67:=by
 have h1:=Sd.cq1 d gy (headB ((number nm kMan).getD 0));have h2:=mq5 (o.write gy (headB ((number nm kMan).getD 0))) M nm;unfold hd;split
 ·dsimp only;omega
 ·omega
theorem jz5 {d:Sd} (o:d.Wf) (M:Gs) (nm:List UInt8):(tmp d M nm).1.load<=d.load+68:=by
 have h1:=Sd.bz1 d gy;have h2:=tj4 (o.remove gy) M nm;have h3:=tj4 o M nm;unfold tmp;split
 ·split
  ·dsimp only;omega
  ·omega
 ·omega
theorem ew3 {d:Sd} (o:d.Wf) (M:Gs) (nm:List UInt8):(rewrite d M nm).1.load<=d.load+70:=by
 have h1:=Sd.cq1 d nm M.v.whole.rec_;have h2:=jz5 (o.write nm M.v.whole.rec_) M nm;unfold rewrite;split
 ·dsimp only;omega
 ·omega
end Gw
end Go.Proofs.YtfbkjjdfboagfaaGreatDoor
