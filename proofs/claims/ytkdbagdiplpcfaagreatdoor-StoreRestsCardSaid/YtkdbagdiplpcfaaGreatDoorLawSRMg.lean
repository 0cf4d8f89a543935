/-
  The walk of StoreRests.
-/
import Derived.Test.YtkdbagdiplpcfaaGreatDoorBunBK
set_option linter.unusedSimpArgs false
set_option linter.unusedVariables false
namespace Go.Proofs.YtkdbagdiplpcfaaGreatDoor
open Go.Proofs.Tryz Go Go.RowKit Go.Lib Go.Shelf
variable {w:World}
set_option maxRecDepth 100000 in
set_option maxHeartbeats 16000000 in
theorem storeRests_walk (A:Option Addr) (n c:Nat) (f:Nat->Aq) (j9:n<=c) (d2:c<=maxLen) (d3:mw5 w A n f) (he:Env w):
  Calls prog 3 #[.slice A n c] w fun e w'=>e=.returned (.bool true)/\Below w.heap.size w w':=by
 obtain⟨S0,d4,d5⟩:=Pl.PlI.born;have d6:=H_ (ux3 4194304 o_ he S0 Nd.v0 d4);have HE:=H_ he;have d7:=H_ d5;have a1:=H_ d3;have d8:n<=9223372036854775807:=by unfold maxLen at d2;omega
 have j':=H_ d8;clear he d4 d5 d3 d2 d8;go_enter func3,ntmps3;go_wp2_with fail
 refine m_ d6 ?_
 rintro e w1 ⟨gw,X,Y,rfl,hw⟩;have d9:Hid (PlL w w1 gw 0):=H_ ⟨X,S0,Y,Nd.v0,_,_,_,tv5 HE.out hw,d7.out,⟨y_ _,y_ _⟩⟩;clear hw d6 d7;go_wp2_with fail
 go_loopw [4] (fun i wr=>∃k:Nat,k<=n/\k<=30/\i=.int .i64 (k:Int)/\Hid (PlL w wr gw k)) (fun i _=>n - (intOf i).toNat)
 case atStart=>exact⟨0,w_ _,w_ _,rfl,d9⟩
 case round=>
  clear d9;obtain⟨k,hk,g6,rfl,HI⟩:=hrel
  by_cases g7:k < n/\k < 30
  ·obtain⟨g8,k1⟩:=g7
   have e0:(k:Int) < (n:Int):=o_
   ·have j3:(k:Int) < 30:=o_
    have hb:=HI.out.bel;obtain⟨a,hA,g9,a4,e1⟩:=a1.out k g8;have U:∀j v,0 < j->(f k).cells[j]?=some v->w.cell? ⟨(a.add (k *12)).block,(a.add (k *12)).off+j,none⟩=some v:=fun j v h0 hv=>by
     rw[<-gy2 a (k *12) h0];exact a4 j v hv
    have a5:=a4 0 _ rfl;rw[bm_]at a5;have Z:(a.add (k *12)).block < w.heap.size:=by rw[add_block];exact g9
    have k3:IntKind.i64.wrap (k:Int)=(k:Int):=D_ _ o_;have a6:∀I,Below w.heap.size w I->I.cell? (a.add (k *12))=some (.int .i64 (f k).k)/\(∀j v,0 < j->(f k).cells[j]?=some v->I.cell? ⟨(a.add (k *12)).block,(a.add (k *12)).off+j,none⟩=some v):=fun I hb=>⟨(hb.cell Z).trans a5,fun j v h0 hv=>(hb.cell (p:=⟨(a.add (k *12)).block,(a.add (k *12)).off+j,none⟩) Z).trans (U j v h0 hv)⟩;have a7:=H_ a6;have a8:=oq4 (f k) wr;have a9:(f k).n<=60->∀I,PlL w I gw k->Calls prog 7 #[.pointer (some ⟨gw,0,none⟩),(f k).val] I (vz1 w gw k):=fun hn I ⟨X,S,Y,V,R,L,mt,q1,q2,q3⟩=>bx5 q1 q2 q3 o_ (f k) e1 hn;generalize f k=o at *;unfold Aq.val at a8 a9;obtain⟨b0,C⟩:=a6 wr hb;have b1:=C 1 _ o_ rfl;have b2:=C 2 _ o_ rfl;have b3:=C 3 _ o_ rfl;have b4:=C 4 _ o_ rfl;have b5:=C 5 _ o_ rfl;have b6:=C 6 _ o_ rfl;have b7:=C 7 _ o_ rfl;have b8:=C 8 _ o_ rfl;have b9:=C 9 _ o_ rfl;have a':=C 10 _ o_ rfl;have b':=C 11 _ o_ rfl;have e2:=H_ a8;have c9:=H_ a9;have HB:=H_ hb;subst hA;clear a8 a9 hb a4 U a5 a6 C e1;go_wp2_with fail
    refine m_ e2 ?_
    rintro e w3 ⟨rfl,e3⟩;have E:=H_ (HI.out.below e3);clear e3 e2 HI b0 b1 b2 b3 b4 b5 b6 b7 b8 b9 a' b'
    by_cases H:(decide (o.n<=60) &&decide (o.kn<=60))=true
    ·have e4:o.n<=60:=by simp at H;exact H.1
     have e5:=H_ (c9.out e4 _ E.out);obtain⟨b0,C⟩:=a7.out w3 E.out.bel;have b1:=C 1 _ o_ rfl;have b2:=C 2 _ o_ rfl;have b3:=C 3 _ o_ rfl;have b4:=C 4 _ o_ rfl;have b5:=C 5 _ o_ rfl;have b6:=C 6 _ o_ rfl;have b7:=C 7 _ o_ rfl;have b8:=C 8 _ o_ rfl;have b9:=C 9 _ o_ rfl;have a':=C 10 _ o_ rfl;have b':=C 11 _ o_ rfl;rw[H];clear C H e4 c9 E a7;go_wp2_with fail
     refine m_ e5 ?_
     rintro e w4 ⟨rfl,e6⟩;have i3:Hid (PlL w w4 gw (k+1)):=H_ e6;clear e6 e5 b0 b1 b2 b3 b4 b5 b6 b7 b8 b9 a' b';go_wp2;go_roundw
     case rel=>exact⟨k+1,o_,o_,by go_num,i3⟩
     case measure=>simp[intOf];omega
    ·have a0:(decide (o.n<=60) &&decide (o.kn<=60))=false:=by simpa using H
     rw[a0];have HZ:=H_ E.out.bel;have J:=H_ (eq4 (HE.out.below E.out.bel));clear H a0 E a7 c9 a1;go_wp2_with fail
     refine m_ J ?_
     rintro e w4 ⟨rfl,e7⟩;have i4:=H_ (az HZ.out e7);clear J e7 HZ;go_wp2;go_ret;exact⟨rfl,i4.out⟩
  ·have i5:((k:Int) < (n:Int))=False\/((k:Int) < (n:Int))/\((k:Int) < 30)=False:=by
    by_cases h:k < n
    ·exact .inr ⟨o_,eq_false o_⟩
    ·exact .inl (eq_false o_)
   have e9:Hid (RsL w wr gw 0):=H_ (HI.out.rest g6);clear HI a1
   rcases i5 with e0|⟨e0,j5⟩
   all_goals
    go_wp2_with fail
    go_loopw [5] (fun i i6=>∃j:Nat,i=.int .i64 (j:Int)/\Hid (RsL w i6 gw j)) (fun i _=>200 - (intOf i).toNat)
    case atStart=>exact⟨0,rfl,e9⟩
    case round=>
     clear e9;obtain⟨j,rfl,HJ⟩:=hrel;have hj:=HJ.out.le;have k8:(j:Int) < 200:=o_
     have k9:IntKind.i64.wrap (j:Int)=(j:Int):=D_ _ o_;obtain⟨a,ha,hc⟩:=HJ.out.step;have HC:=H_ hc;clear hc HJ;go_wp2_with fail
     refine m_ HC ?_
     rintro e w5 ⟨b,rfl,Q⟩
     rcases Q with ⟨rfl,Q⟩|⟨rfl,Q⟩
     ·have HQ:Hid (RsL w w5 gw (j+1)):=H_ Q
      have HS:=H_ Q.same;clear Q HC ha;go_wp2_with fail
      refine m_ HS ?_
      rintro e w6 ⟨rfl,O⟩;have i9:=H_ (HQ.out.below O);clear O HS HQ;go_wp2;go_roundw
      case rel=>exact⟨j+1,by go_num,i9⟩
      case measure=>simp[intOf];omega
     ·have HQ:Hid (RsZ w w5 gw):=H_ Q
      have HS:=H_ Q.same;clear Q HC ha;go_wp2_with fail
      refine m_ HS ?_
      rintro e w6 ⟨rfl,O⟩;have f6:=HQ.out.below O;obtain⟨a2,i',f7⟩:=f6.again;have f8:=H_ f7;clear O HS HQ f7 f6;go_wp2_with fail
      refine m_ f8 ?_
      rintro e w7 ⟨rfl,c'⟩;have f9:Hid (RsZ w w7 gw):=H_ c';obtain⟨a3,j0,f'⟩:=c'.stats;have g0:=H_ f';clear c' f' f8 i';go_wp2_with fail
      refine m_ g0 ?_
      rintro e w8 ⟨x,y,z,cc,b,hz,rfl,g1⟩;have l3:(z:Int)<=20:=o_
      have l4:∀I,(Instr.field 42 (.agg #[.int .i64 (x:Int),.int .i64 (y:Int),.int .i64 (z:Int),.int .i64 cc,.bool b]) 2).run prog I=.ok (.int .i64 (z:Int)) I:=fun _=>rfl;have d0:=H_ (az f9.out.bel g1);have J:=H_ (eq4 (HE.out.below d0.out));clear g0 j0 g1 f9;go_wp2_with fail
      refine m_ J ?_
      rintro e w9 ⟨rfl,g2⟩;have j1:=H_ (az d0.out g2);clear J g2 d0;go_wp2;go_ret;exact⟨rfl,j1.out⟩
end Go.Proofs.YtkdbagdiplpcfaaGreatDoor
