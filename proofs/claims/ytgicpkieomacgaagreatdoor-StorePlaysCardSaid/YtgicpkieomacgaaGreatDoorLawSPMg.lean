/-
  The walk of StorePlays.
-/
import Derived.Test.YtgicpkieomacgaaGreatDoorBunBH
import Derived.Test.YtgicpkieomacgaaGreatDoorBunBI
set_option linter.unusedSimpArgs false
set_option linter.unusedVariables false
namespace Go.Proofs.YtgicpkieomacgaaGreatDoor
open Go.Proofs.Tryz Go Go.RowKit Go.Lib Go.Shelf
variable {w w0 w1 w2:World} {X X1 X2:Dw} {S S1 S2:Sd} {Y Y1 Y2:Yw} {V V1 V2:Sv} {g gw i:Nat} {R:Sl} {L:List It} {mt:Mt}
theorem bx5 (h:Ws w0 w gw X S Y V R L mt) (C:Pl.PlI S V L mt i) (E:Pl.Lg_ V i) (hi:i<=49) (a:Aq) (I:a.In w0) (H:a.n<=60):
  Calls prog 7 #[.pointer (some ⟨gw,0,none⟩),a.val] w (vz1 w0 gw i):=by
 obtain⟨k,A,n,c,m,v,s,x,y,z,K,kn,kc,l⟩:=a;have h1:=I.row;have h2:=I.fit;unfold Aq.val;simp only at H h1 h2 ⊢
 by_cases J:k=0
 ·subst J
  exact tx5 h C E hi A n c m v s x y z K kn kc l h1 h2 H
 by_cases O:k=1
 ·subst O
  exact uk5 h C E hi A n c m v s x y z K kn kc
 by_cases Q:k=2
 ·subst Q
  exact yx5 h C E hi A n c m v s x y z K kn kc
 by_cases U:k=3
 ·subst U
  exact vk5 h C E hi A n c m v s x y z K kn kc
 by_cases Z:k=4
 ·subst Z
  exact uy5 h C E hi A n c m v s x y z K kn kc
 by_cases k5:k=5
 ·subst k5
  exact xw5 h C E hi A n c m v s x y z K kn kc
 exact wv5 h C E hi A n c m v s x y z K kn kc k o_ H
theorem tv5 (C:Env w0) (h:WAt w0 w gw X S Y V):Ws w0 w gw X S Y V ⟨none,0,0⟩ [] ⟨0,0,0,0⟩:=
 ⟨h.at_,h.box,Row.nil_,fun j hj=>by simp[itc]at hj,h.low,h.out,h.gl,j_ C.base h.gl,h.bel⟩
def PlL (w w':World) (gw k:Nat):Prop:=∃X S Y V R L mt,Ws w w' gw X S Y V R L mt/\Pl.PlI S V L mt k/\Pl.Lg_ V k
theorem PlL.below {k:Nat} (h:PlL w w1 gw k) (C:Below w1.heap.size w1 w2):PlL w w2 gw k:=let ⟨X,S,Y,V,R,L,mt,a,b⟩:=h;⟨X,S,Y,V,R,L,mt,a.below C,b⟩
theorem PlL.bel {k:Nat} (h:PlL w w1 gw k):Below w.heap.size w w1:=let ⟨_,_,_,_,_,_,_,a,_⟩:=h;a.bel
set_option maxRecDepth 100000 in
set_option maxHeartbeats 16000000 in
theorem ky2 (A:Option Addr) (n c:Nat) (f:Nat->Aq) (h8:n<=c) (c':c<=maxLen) (d0:mw5 w A n f) (he:Env w):
  Calls prog 3 #[.slice A n c] w fun e w'=>e=.returned (.bool true)/\Below w.heap.size w w':=by
 obtain⟨S0,d1,d2⟩:=Pl.PlI.born;have d3:=H_ (ux3 4194304 o_ he S0 Nd.v0 d1);have HE:=H_ he;have d4:=H_ d2;have f7:=H_ d0;have d5:n<=9223372036854775807:=by unfold maxLen at c';omega
 have h9:=H_ d5;clear he d1 d2 d0 c' d5;go_enter func3,ntmps3;go_wp2_with fail
 refine m_ d3 ?_
 rintro e w1 ⟨gw,X,Y,rfl,hw⟩;have d6:=H_ (eq4 (HE.out.below hw.bel));have d7:Hid (PlL w w1 gw 0):=H_ ⟨X,S0,Y,Nd.v0,_,_,_,tv5 HE.out hw,d4.out,⟨y_ _,y_ _⟩⟩;clear hw d3 d4;go_wp2_with fail
 refine m_ d6 ?_
 rintro e w2 ⟨rfl,d8⟩;have d9:=H_ (d7.out.below d8);clear d8 d7 d6 HE;go_wp2_with fail
 go_loopw [4] (fun i wr=>∃k:Nat,k<=n/\k<=50/\i=.int .i64 (k:Int)/\Hid (PlL w wr gw k)) (fun i _=>n - (intOf i).toNat)
 case atStart=>exact⟨0,w_ _,w_ _,rfl,d9⟩
 case round=>
  clear d9;obtain⟨k,hk,h',rfl,U⟩:=hrel
  by_cases f9:k < n
  ·have f':(k:Int) < (n:Int):=o_
   by_cases i0:k < 50
   ·have d':(k:Int) < 50:=o_
    have hb:=U.out.bel;obtain⟨a,hA,g0,Z,e0⟩:=f7.out k f9;have J:∀j v,0 < j->(f k).cells[j]?=some v->w.cell? ⟨(a.add (k *12)).block,(a.add (k *12)).off+j,none⟩=some v:=fun j v h0 hv=>by
     rw[<-gy2 a (k *12) h0];exact Z j v hv
    have a0:=Z 0 _ rfl;rw[bl_]at a0;have O:(a.add (k *12)).block < w.heap.size:=by rw[add_block];exact g0
    have i2:IntKind.i64.wrap (k:Int)=(k:Int):=E_ _ o_;have a1:∀E,Below w.heap.size w E->E.cell? (a.add (k *12))=some (.int .i64 (f k).k)/\(∀j v,0 < j->(f k).cells[j]?=some v->E.cell? ⟨(a.add (k *12)).block,(a.add (k *12)).off+j,none⟩=some v):=fun E hb=>⟨(hb.cell O).trans a0,fun j v h0 hv=>(hb.cell (p:=⟨(a.add (k *12)).block,(a.add (k *12)).off+j,none⟩) O).trans (J j v h0 hv)⟩;have a2:=H_ a1;have a4:=oq4 (f k) wr;have a5:(f k).n<=60->∀E,PlL w E gw k->Calls prog 7 #[.pointer (some ⟨gw,0,none⟩),(f k).val] E (vz1 w gw k):=fun hn E ⟨X,S,Y,V,R,L,mt,q1,q2,q3⟩=>bx5 q1 q2 q3 o_ (f k) e0 hn;have e1:∀E,PlL w E gw (k+1)->Calls prog 8 #[.pointer (some ⟨gw,0,none⟩)] E fun e w'=>e=.returned (.bool true)/\Below E.heap.size E w':=fun E ⟨X,S,Y,V,R,L,mt,q1,q2,q3⟩=>by
     have has:=q2.asks o_;exact by4 q1 q2.st q2.mt has.only q2.len (by have:=has.tabs;omega) has.files
    generalize f k=o at *;unfold Aq.val at a4 a5;obtain⟨b0,C⟩:=a1 wr hb;have b1:=C 1 _ o_ rfl;have b2:=C 2 _ o_ rfl;have b3:=C 3 _ o_ rfl;have b4:=C 4 _ o_ rfl;have b5:=C 5 _ o_ rfl;have b6:=C 6 _ o_ rfl;have b7:=C 7 _ o_ rfl;have b8:=C 8 _ o_ rfl;have b9:=C 9 _ o_ rfl;have a6:=C 10 _ o_ rfl;have a7:=C 11 _ o_ rfl;have e2:=H_ a4;have a8:=H_ a5;have a9:=H_ e1;have HB:=H_ hb;subst hA;clear a4 a5 e1 hb Z J a0 a1 C e0;go_wp2_with fail
    refine m_ e2 ?_
    rintro e w3 ⟨rfl,e3⟩;have I:=H_ (U.out.below e3);clear e3 e2 U b0 b1 b2 b3 b4 b5 b6 b7 b8 b9 a6 a7
    by_cases H:(decide (o.n<=60) &&decide (o.kn<=60))=true
    ·have e4:o.n<=60:=by simp at H;exact H.1
     have e5:=H_ (a8.out e4 _ I.out);obtain⟨b0,C⟩:=a2.out w3 I.out.bel;have b1:=C 1 _ o_ rfl;have b2:=C 2 _ o_ rfl;have b3:=C 3 _ o_ rfl;have b4:=C 4 _ o_ rfl;have b5:=C 5 _ o_ rfl;have b6:=C 6 _ o_ rfl;have b7:=C 7 _ o_ rfl;have b8:=C 8 _ o_ rfl;have b9:=C 9 _ o_ rfl;have a6:=C 10 _ o_ rfl;have a7:=C 11 _ o_ rfl;rw[H];clear C H e4 a8 I a2;go_wp2_with fail
     refine m_ e5 ?_
     rintro e w4 ⟨rfl,e6⟩;have a':Hid (PlL w w4 gw (k+1)):=H_ e6;have e7:=H_ (a9.out _ a'.out);clear e6 e5 a9 b0 b1 b2 b3 b4 b5 b6 b7 b8 b9 a6 a7;go_wp2_with fail
     refine m_ e7 ?_
     rintro e w5 ⟨rfl,e9⟩;have h6:=H_ (a'.out.below e9);clear e9 e7 a';go_wp2;go_roundw
     case rel=>exact⟨k+1,o_,o_,by go_num,h6⟩
     case measure=>simp[intOf];omega
    ·have Q:(decide (o.n<=60) &&decide (o.kn<=60))=false:=by simpa using H
     rw[Q];have HZ:=H_ I.out.bel;clear H Q I a2 a8 a9;go_wp2;go_ret;exact⟨rfl,HZ.out⟩
   ·have d':((k:Int) < 50)=False:=eq_false o_
    have HZ:=H_ U.out.bel;clear U;go_wp2;go_ret;exact⟨rfl,HZ.out⟩
  ·have f':((k:Int) < (n:Int))=False:=eq_false o_
   have HZ:=H_ U.out.bel;clear U;go_wp2;go_ret;exact⟨rfl,HZ.out⟩
end Go.Proofs.YtgicpkieomacgaaGreatDoor
