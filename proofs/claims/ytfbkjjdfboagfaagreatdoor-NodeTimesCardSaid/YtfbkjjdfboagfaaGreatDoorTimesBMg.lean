/-
  The walk of NodeTimes.
-/
import Derived.Test.YtfbkjjdfboagfaaGreatDoorBunBE
namespace Go.Proofs.YtfbkjjdfboagfaaGreatDoor
open Go.Proofs.Tryz Go Go.RowKit Go.Lib Go.Shelf
variable {w w0 w1 w2:World}
theorem vw5 (f:Nat) (o:f < 18446744073709551616) (k:Nat) (z:k < 64):∃m:Nat,bits .and .u64 (f:Int) ((2 ^ k - 1:Nat):Int)=(m:Int)/\m < 2 ^ k:=by
 obtain⟨m,h1,h2,_⟩:=fx4 (BitVec.ofNat 64 f) k z;rw[BitVec.toNat_ofNat,aj_ o]at h1;exact⟨m,h1,h2⟩
set_option maxRecDepth 100000 in
set_option maxHeartbeats 16000000 in
theorem mw2 (grace:Nat) (turn:Int) (hg:grace < 18446744073709551616) (he:Env w):
  Calls prog 3 #[[grace],turn] w fun e w'=>e=.returned (.bool true)/\Below w w w':=by
 obtain⟨mg,d1,d2⟩:=vw5 grace hg 4 o_;have k3:bits .and .u64 (grace:Int) 15=(mg:Int):=d1;obtain⟨tm,d4,a'⟩:=fq5 turn 8 o_;have J:bits .and .i64 turn 255=(tm:Int):=d4;obtain⟨G,hG⟩:=n_ (mg+2);have l9:(mg:Int)+2=(G:Int):=o_
 have l':IntKind.u64.wrap (G:Int)=(G:Int):=be_ _ o_;have E:Hid (2<=G/\G<=20):=H_ o_;have b7:=H_ (d_ J a');have d5:=H_ (wz3 1048576 w);have HE:=H_ he;clear d1 d4 J a' he hG d2 hg;go_enter func3,ntmps3;go_wp2_with fail
 refine m_ d5 ?_
 rintro e w1 ⟨X0,rfl,d7,d8,d9⟩;have b8:=H_ (xz5 HE.out d7 d8 d9 G (by have:=E.out;omega));obtain⟨d,hd⟩:=n_ X0.d;rw[<-hd]at b8 ⊢;clear d7 d8 d9 d5 hd;go_wp2_with fail
 refine m_ b8 ?_
 rintro e w2 ⟨nb,S,rfl,hI,b9,d'⟩;obtain⟨S1,V1,z,n1,e1,S2,V2,m2,n2,e2,S3,m3,S4,V4,ts,m4,n4,g4,e4,o4,e0⟩:=Tm.four S b9 d';have e5:Hid (Nrm Nd.v0):=H_ (b9.nrm o_ o_ (by show 0<=_;omega));obtain⟨e6,a7,g5⟩:=Tm.again g4 o4;obtain⟨S6,p6⟩:=Tm.aj6 g5 a7.load;have HK:Hid (TmK (S4.ak1 []) S6 (St.old V4.M (Lg.text [[Tm.t]]).length [[Tm.t]])):=H_ ⟨g5.ns.nrm o_ o_ (by rw[g5.st];simp),g5,e4,a7.load,p6⟩;have a8:=H_ (d_ z (d_ n1 e1));have U:=H_ (d_ m2 (d_ n2 e2));have e9:=H_ m3;have H:=H_ (d_ m4 (d_ n4 e4));have HO:=H_ (d_ o4 (d_ e6 (d_ a7 e0)));have f0:Hid (V4.st.length=1):=H_ (by rw[g4.st];rfl);have f1:=H_ hI;clear hI b9 d' z n1 e1 m2 n2 e2 m3 m4 n4 g4 e4 o4 e0 e6 a7 g5 p6 b8;go_wp2_with fail
 go_loopw [8] (fun i wr=>∃k:Nat,k<=7/\i=.int .i64 k/\Hid (TmX w wr nb d S Nd.v0 k G)) (fun i _=>7 - (intOf i).toNat)
 case atStart=>exact⟨0,A_ _,rfl,f1⟩
 case round=>
  clear f1;obtain⟨k,hk,rfl,I⟩:=hrel
  by_cases b':k < 7
  ·have e1:((k:Int) < (7:Int))=True:=eq_true o_
   obtain⟨z,o⟩:=n_ (k+1);have O:(k:Int)+1=(z:Int):=o_
   have f3:IntKind.i64.wrap (z:Int)=(z:Int):=M_ _ o_;have Q:=tq3 HE.base I.out e5.out o_ (by unfold Mt.collect;split<;>rfl);rw[<-o]at Q;have HT:=H_ Q;have HM:=H_ (d_ o b');clear o hk b' Q I;go_wp2_with fail
   refine m_ HT ?_
   rintro e w3 ⟨rfl,h3⟩;have HZ:=H_ h3;clear h3 HT;go_wp2;go_roundw
   case rel=>exact⟨z,by have:=HM.out;omega,by rw[<-O],HZ⟩
   case measure=>have:=HM.out;simp[intOf];omega
  ·have e1:((k:Int) < (7:Int))=False:=eq_false o_
   obtain rfl:k=7:=o_
   have C:=H_ (bw6 I.out e5.out a8.1);clear hk b' I;go_wp2_with fail
   refine m_ C ?_
   rintro e w3 ⟨A3,n3,c3,rfl,h3⟩;have C:=H_ (vx5 h3 a8.2.1 a8.2.2 U.1);clear h3 a8;go_wp2_with fail
   refine m_ C ?_
   rintro e w4 ⟨A4,n4,c4,rfl,h4⟩;have C:=H_ (tk5 h4 U.2.1 e9);clear h4;go_wp2_with fail
   refine m_ C ?_
   rintro e w5 ⟨A5,n5,c5,rfl,h5⟩;have C:=H_ (sj5 h5 U.2.1 U.2.2 H.1);clear h5;go_wp2_with fail
   refine m_ C ?_
   rintro e w6 ⟨A6,n6,c6,rfl,h6⟩;have C:=H_ (vv4 h6);have HQ:=H_ (uw5 h6 H.2.1 H.2.2);clear h6 U e9;go_wp2_with fail
   refine m_ C ?_
   rintro e _ ⟨rfl,rfl⟩;have j0:∀(x1 x2 x3 x4:Int) W',(Instr.field 39 (.agg #[.int .u64 x1,.int .u64 x2,.int .u64 x3,.int .u64 x4]) 2).run prog W'=.ok (.int .u64 x3) W':=fun _ _ _ _ _=>rfl;go_wp2_with fail
   refine m_ HQ ?_
   rintro e w7 ⟨rfl,h7⟩;have f4:=H_ h7;obtain⟨p,hp⟩:=n_ (tm % G);have f5:p < G:=by rw[hp];exact bB_ _ (by have:=E.out;omega)
   have f6:(tm:Int).tmod (G:Int)=(p:Int):=by rw[hp];rfl
   have j3:IntKind.u64.wrap (tm:Int)=(tm:Int):=be_ _ (by have:=b7.2;omega);have j4:IntKind.u64.wrap (p:Int)=(p:Int):=be_ _ (by have:=E.out;omega);have j5:(G=0)=False:=eq_false (by have:=E.out;omega);have j6:((G:Int)==0)=false:=by have:=E.out;simp;omega
   have f7:((G:Int)=0)=False:=by have:=E.out;simp;omega
   have J:=b7.1;have a2:=H_ f5;clear h7 hp f5 C HQ;go_wp2_with fail
   go_loopw [10] (fun i wr=>∃k:Nat,k<=p/\i=.int .u64 k/\Hid (TmX w wr nb d S4 V4 (7+k) G)) (fun i _=>p - (intOf i).toNat)
   case atStart=>exact⟨0,A_ _,rfl,f4⟩
   case round=>
    clear f4 j0 f6 j3 j4 j5 j6 f7 J b7;obtain⟨k,hk,rfl,I⟩:=hrel
    by_cases c9:k < p
    ·have e1:((k:Int) < (p:Int))=True:=eq_true o_
     obtain⟨z,o⟩:=n_ (k+1);have O:(k:Int)+1=(z:Int):=o_
     have f3:IntKind.u64.wrap (z:Int)=(z:Int):=be_ _ (by have:=a2.out;have:=E.out;omega);have Q:=tq3 HE.base I.out H.2.1 (by have:=a2.out;have:=E.out;omega) (by rw[pq4 H.2.2 (by have:=E.out;omega),if_pos (by have:=a2.out;omega)]);rw[show 7+k+1=7+z by omega]at Q;have HT:=H_ Q;have HM:=H_ (d_ o c9);clear o hk c9 Q I;go_wp2_with fail
     refine m_ HT ?_
     rintro e w3 ⟨rfl,h3⟩;have HZ:=H_ h3;clear h3 HT;go_wp2;go_roundw
     case rel=>exact⟨z,by have:=HM.out;omega,by rw[<-O],HZ⟩
     case measure=>have:=HM.out;simp[intOf];omega
    ·have e1:((k:Int) < (p:Int))=False:=eq_false o_
     obtain rfl:k=p:=o_
     obtain⟨q,hq⟩:=n_ (7+k);have j7:(7:Int)+(k:Int)=(q:Int):=o_
     have j8:IntKind.u64.wrap (q:Int)=(q:Int):=be_ _ (by have:=a2.out;have:=E.out;omega);have hI:=I.out;rw[<-hq]at hI;have C:=H_ (vv4 hI);have HQ:=H_ (mk4 hI 1 f0.symm o_);clear hI I hk c9 hq;go_wp2_with fail
     refine m_ C ?_
     rintro e _ ⟨rfl,rfl⟩;clear C;go_wp2_with fail
     refine m_ HQ ?_
     rintro e w8 ⟨A8,c8,rfl,h8⟩;have C:=H_ (dy5 h8 HO.1);clear h8 HQ j7 j8;go_wp2_with fail
     refine m_ C ?_
     rintro e w9 ⟨rfl,h9⟩;have C:=H_ (xy5 h9 HO.2.1 HO.2.2.1 HO.2.2.2 (by rw[H.2.2]) G (by have:=E.out;omega));clear h9 HO;go_wp2_with fail
     refine m_ C ?_
     rintro e j9 ⟨nb,rfl,a9⟩;obtain⟨S5,f8⟩:=n_ (S4.ak1 []);obtain⟨V5,f9⟩:=n_ (St.old V4.M (Lg.text [[Tm.t]]).length [[Tm.t]]);have hK:=HK.out;rw[<-f8,<-f9]at a9 hK;have b2:Hid (dx3 w j9 nb d S5 S6 V5 G 0):=H_ (.inl ⟨by have:=E.out;omega,a9⟩);have HQ:=H_ (vv4 a9);have HK:=H_ hK;have HL:=H_ (ov3 hK b2.out 1 (by rw[if_pos (by have:=E.out;omega)]));clear a9 f8 f9 hK b2 C f0 H a2;go_wp2_with fail
     refine m_ HQ ?_
     rintro e _ ⟨rfl,rfl⟩;clear HQ;go_wp2_with fail
     refine m_ HL ?_
     rintro e m7 ⟨m8,m9,rfl,g8⟩;have b5:=H_ g8;clear g8 HL;go_wp2_with fail
     go_loopw [13] (fun i wr=>∃k j:Nat,k=j+1/\j<=G/\i=.int .u64 k/\Hid (dx3 w wr nb d S5 S6 V5 G j)) (fun i _=>G+1 - (intOf i).toNat)
     case atStart=>exact⟨1,0,rfl,A_ _,rfl,b5⟩
     case round=>
      clear b5;obtain⟨k,j,a4,hj,rfl,I⟩:=hrel
      by_cases a5:j < G
      ·have e1:((k:Int)<=(G:Int))=True:=eq_true o_
       obtain⟨z,o⟩:=n_ (k+1);have O:(k:Int)+1=(z:Int):=o_
       have f3:IntKind.u64.wrap (z:Int)=(z:Int):=be_ _ (by have:=E.out;omega);have Q:=fj5 HE.base HK.out I.out a5 E.2;rw[<-a4]at Q;have HT:=H_ Q;have HM:=H_ (d_ o (d_ a4 a5))
       by_cases d0:k < G
       ·have e2:((k:Int)==(G:Int))=false:=by simp;omega
        have e3:((k:Int)=(G:Int))=False:=eq_false o_;have e4:(k=G)=False:=eq_false o_;have HL:=H_ fun(W:World) (h:dx3 w W nb d S5 S6 V5 G k)=>ov3 HK.out h 1 (by rw[if_pos d0]);clear o a4 hj a5 Q I d0;go_wp2_with fail
        refine m_ HT ?_
        rintro e w3 ⟨rfl,h3⟩;have HZ:=H_ (HL.out _ h3);clear h3 HT HL;go_wp2_with fail
        refine m_ HZ ?_
        rintro e w4 ⟨A4,c4,rfl,h4⟩;have HY:=H_ h4;clear h4 HZ;go_wp2;go_roundw
        case rel=>exact⟨z,k,HM.1,by have:=HM.out;omega,by rw[<-O],HY⟩
        case measure=>have:=HM.out;simp[intOf];omega
       ·obtain rfl:k=G:=o_
        have HL:=H_ fun(W:World) (h:dx3 w W nb d S5 S6 V5 k k)=>ov3 HK.out h 0 (by rw[if_neg o_]);clear o a4 hj a5 Q I d0;go_wp2_with fail
        refine m_ HT ?_
        rintro e w3 ⟨rfl,h3⟩;have HZ:=H_ (HL.out _ h3);clear h3 HT HL;go_wp2_with fail
        refine m_ HZ ?_
        rintro e w4 ⟨A4,c4,rfl,h4⟩;have HY:=H_ h4;clear h4 HZ;go_wp2;go_roundw
        case rel=>exact⟨z,k,HM.1,B_ _,by rw[<-O],HY⟩
        case measure=>have:=HM.out;simp[intOf];omega
      ·have e1:((k:Int)<=(G:Int))=False:=eq_false o_
       have hb:=I.elim (fun q=>q.2.elim fun X q=>q.elim fun Y q=>q.1.nd.bel) (fun q=>q.2.elim fun X q=>q.elim fun Y q=>q.1.nd.bel);have g':=H_ (yx5 (HE.below hb));have HB:=H_ hb;clear hb a5 hj a4 I;go_wp2_with fail
       refine m_ g' ?_
       rintro e m' ⟨rfl,b6⟩;have HZ:=H_ (az HB.out b6);clear b6 g' HB;go_wp2;go_ret;exact⟨rfl,HZ⟩
end Go.Proofs.YtfbkjjdfboagfaaGreatDoor
