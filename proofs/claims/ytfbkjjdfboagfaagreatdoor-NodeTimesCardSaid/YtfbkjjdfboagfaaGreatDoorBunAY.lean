/- Some of the texts. No conditions. -/
import Derived.Test.YtfbkjjdfboagfaaGreatDoorBunAR
import Derived.Test.YtfbkjjdfboagfaaGreatDoorBunAS

set_option linter.unusedSimpArgs false
set_option linter.unusedVariables false
set_option maxRecDepth 100000
set_option maxHeartbeats 16000000
namespace Go.Proofs.YtfbkjjdfboagfaaGreatDoor
open Go.Proofs.Tryz Go Go.RowKit Go.Lib Go.Shelf
section
open Go.Maps
variable {w w1 w2:World} {X X1 X2:Dw} {S S1 S2:Sd} {Y Y1 Y2:Yw} {V V1 V2:Sv}
def St.sweep (M:Gs):List (List UInt8)->Sd->Sd
 |[],S=>S
 |s::r,S=>if (St.cx1 s&&!St.keeps M s)=true then St.sweep M r (S.remove s).1 else St.sweep M r S
theorem ik5 (m:Nm) (s:List UInt8) (z:DataW Unit) (h:m.get s=none):(Nm.enc m).atKey (.string s) z=z:=by
 unfold Nm.enc DataW.atKey;simp only;rw[Nm.vx2];unfold Nm.get at h
 cases o:m.find? (fun p=>p.1==s) with
 |none=>rfl
 |some p=>rw[o]at h;cases h
def qq5 (X:Dw) (Y:Yw) (V:Sv) (w:World) (S1:Sd) (e:Ending) (w1:World):Prop:=e=.returned (.tuple #[])/\∃X1,X1.d=X.d/\SvAt w1 X1 S1 Y V/\Chg (XY X Y) w w1/\(∀g∈XY X1 Y,g∈XY X Y\/(w:Nat)<=g)
theorem kz28 {P S a oi v} (h:Hv P S a oi v:=by intro w o;(have x:=i5.out _ o;have y1:=x.cell 1;simp only[Yw.cells,gE0,gE1]at y1);go_simp;try (with_reducible rfl)):Hv P S a oi v:=h
theorem dk4 (h:SvAt w X S Y V) (hf:V.M.v.files=[]) (e1:0<=V.M.v.log/\V.M.v.log<=1073741824) (e2:S.load<=1000000) (e3:V.M.name.length<=1000):
  Calls prog 51 #[Y.s] w (qq5 X Y V w (St.sweep V.M S.list S)):=by
 have b7:Y.P.n=0:=by rw[h.plen,hf];rfl
 have e4:∀W,Below w w W->Calls prog 38 #[Y.m] W fun e w'=>∃A c,e=.returned (.agg #[V.M.v.log,.slice A 0 c,[V.M.v.floor],[V.M.v.cert],[V.M.v.at_],[V.M.v.lease]])/\Below W.heap.size W w':=fun W hb=>by
  have hh:=h.below hb;refine(qz1 X.d hh.man hh.row.row (by rw[b7];omega)).mono ?_;rintro e w' ⟨A,c,rfl,_,i6⟩;rw[b7];exact⟨A,c,rfl,i6⟩
 have U:∀W A c,Below w w W->Calls prog 114 #[.agg #[V.M.v.log,.slice A 0 c,[V.M.v.floor],[V.M.v.cert],[V.M.v.at_],[V.M.v.lease]],Y.m] W (gy3 W V.M):=fun W A c hb=>ky4 A c e1 (h.dm.env.below hb) (h.below hb).man e3;have e5:∀W,Below w w W->BoxO W 103 Y.s (Y.cells X.d V):=fun W hb=>(h.below hb).box;have e6:=H_ e4;have a1:=H_ U;have i5:=H_ e5;have HH:=H_ h;have i8:=H_ e2;clear e4 U e5 h hf e1 b7 e2 e3;go_enter func51,ntmps51;go_upto_region 0 with (fail)
 refine w_h w fun o=>?_;refine w_v 0 o ?_ (k:=kz28);go_simp;refine w_v 1 o ?_ (k:=kz28);go_simp;refine w_v 2 o ?_ (k:=kz28);go_simp;refine w_v 3 o ?_ (k:=kz28);go_simp;refine w_v 5 o ?_ (k:=kz28);go_simp;refine w_v 6 o ?_ (k:=kz28);go_simp;refine w_v 7 o ?_ (k:=kz28);go_simp;refine w_v 8 o ?_ (k:=kz28);go_simp;refine w_r 4 fun K hK=>?_;go_simp
 with_reducible refine(e6.out _ o).mono ?_
 rintro e w3 ⟨A,c,rfl,b8⟩;go_simp;refine hK.out _ _ (az o b8) ?_;clear o hK K;intro o;go_simp;refine w_r 9 fun K hK=>?_;go_simp
 with_reducible refine(a1.out _ A c o).mono ?_
 rintro e w4 ⟨b,n4,Mm,rfl,e9,e',a2,f0⟩;go_simp;refine hK.out _ _ (az o f0) ?_;clear o hK K;intro o;go_simp;refine w_v 10 o ?_ (k:=kz28);go_simp;refine w_d ?_;have a4:Below w w w4:=o;have k5:=(az (ax (Below.refl w w)) b8).size;clear o f0 b8 e6 a1;have h4:=HH.below a4;have x0:=h4.box.cell 0;simp only[Yw.cells,gE0]at x0;have b9:=(Acc.start (F:=[]) h4.dm).list;have f1:=pw1 h4.dm.wf;have U:=kk1 h4.dm.wf;obtain⟨Ls,b'⟩:=n_ S.list;rw[<-b']at b9 f1 U;have i9:=H_ b';have f2:=H_ b9;have H4:=H_ h4;have a1:=H_ U;have f3:=H_ (d_ e9 (d_ e' a2));have f4:=H_ a4;clear b9 h4 U e9 a2 a4 b';go_wp2_with fail
 refine m_ f2 ?_
 rintro e w5 ⟨A5,c5,rfl,c9,a5⟩;have a6:=Row.own c9;have b1:∀a,A5=some a->(w4:Nat)<=a.block:=fun a ha=>(c9.lt a.block (by rw[ha];rfl)).1;have h5:=H4.below a5;have d0:=xy (G:=[]) f3.1 (Chg.of_below a5 []) s_;obtain⟨n,hn⟩:=n_ Ls.length;rw[<-hn]at a6 f1;rw[<-hn];have b2:=H_ (d_ a6 b1);have HN:=H_ hn;have j0:=H_ d0;have H5:=H_ h5;have f5:=H_ (az f4.out a5);have j2:b < (w5:Nat):=d0.lt;clear c9 a6 b1 hn d0 h5 f2 x0;have f6:b∉X.foot:=fun hm=>by have:=HH.dm.dk.lt b hm;omega
 have j4:=H_ f6;have k9:=f4.size;have k':=a5.size;clear f6 a5;go_wp2
 go_loopw [21] (fun i wr=>∃(k:Nat) (J:Sd) (Xk:Dw),k<=n/\i=.int .i64 k/\Hid (Acc [] X w5 J wr Xk/\St.sweep V.M (Ls.drop k) J=St.sweep V.M Ls S/\J.load<=S.load+k)) (fun i _=>n - (intOf i).toNat)
 case atStart=>exact⟨0,S,X,A_ _,rfl,H_ ⟨Acc.start H5.dm,rfl,B_ _⟩⟩
 case round=>
  obtain⟨k,J,Xk,hk,rfl,HI⟩:=hrel;have E:=HI.1;have f7:=H5.disk E.updM;have a7:Chg X.foot w5 wr:=by simpa using E.c
  by_cases j5:k < n
  ·have f8:=(nz a7 b2.1 l_ (fun j _ a ha hm=>by have:=b2.2 a ha;have:=HH.dm.dk.lt _ hm;omega)).up a7.size
   obtain⟨p,hl,rfl,l1,c0⟩:=f8.enc j5;have a8:Ls.drop k=Ls[k]::Ls.drop (k+1):=aO_ hl;have d2:=HI.2.1;rw[a8]at d2;have f9:=gw2 Ls[k] (by have:=ey1 (a1.out _ (w_ hl));omega) wr E.dm.env;have j6:=ey1 (a1.out _ (w_ hl));generalize Ls[k]=s at *;have g4:=xy j0.out a7 j4;obtain⟨l2,q1,q2,q3,q4⟩:=f7;have y0:=q2.box.cell 0;simp only[Yw.cells,gE0]at y0;rw[q1]at y0;have d3:=fun W (hb:Below wr wr W)=>(E.below hb).remove (str s) (by rw[jy];unfold maxLen;omega) (by have:=HI.2.2;have:=i8.out;omega);rw[kz]at d3;have h0:=f3.2.2 s;have h6:s.length<=maxLen:=by unfold maxLen;omega
   have HC:=H_ (d_ E (d_ d2 HI.2.2));have a':=H_ d3;have O:=H_ f9;have a0:=H_ (d_ g4 (d_ h0 h6));clear E d2 d3 f9 g4 h0 h6 HI f8 a8 j6 q1 q2 q3 q4 a7 hl;obtain⟨ow,d4⟩:=n_ (St.cx1 s);obtain⟨kp,h8⟩:=n_ (St.keeps V.M s);rw[<-d4]at O;have I:=H_ (d_ d4 h8);clear d4 h8
   cases ow with
   |false=>
    go_wp2_with fail
    refine m_ O ?_
    rintro e w6 ⟨rfl,C⟩;have HZ:Hid (Acc [] X w5 J w6 Xk/\St.sweep V.M (Ls.drop (k+1)) J=St.sweep V.M Ls S/\J.load<=S.load+(k+1)):=H_ (by
     obtain⟨z1,z2,z3⟩:=HC.out;refine⟨z1.below C,?_,o_⟩;rw[<-z2,St.sweep,<-I.1];simp)
    clear C HC a' O a0 I;go_wp2;go_roundw
    case rel=>exact⟨k+1,J,Xk,o_,by go_num,HZ⟩
    case measure=>simp[intOf];omega
   |true=>
    have b3:∀W,Below wr wr W->(Instr.lookup 45 (.map (some b)) (.string (str s)) false).run prog W=.ok (.int .i64 (if kp=true then 1 else 0)) W:=fun W hb=>by
     have j8:=xy (G:=[]) a0.1 (Chg.of_below hb []) s_;obtain⟨c,hr,z,_⟩:=World.ownsMap.lookup_int (H:=Unit) j8 nz1 underlying45 underlying3 (ej2 _) (key:=.string (str s)) (kl:=.string s) (by rw[cz4 (by rw[jy];exact a0.2.2),kz]);rw[hr];have hg:=a0.2.1;rw[<-I.2]at hg
     cases kp with
     |true=>
      rw[Nm.ky3 Mm s _ (i:=1) (by simpa using hg)]at z;injection z with z;injection z with _ z;rw[<-z];rfl
     |false=>
      rw[ik5 Mm s _ (by simpa using hg)]at z;injection z with z;injection z with _ z;rw[<-z];rfl
    have Q:=H_ b3;clear b3
    cases kp with
    |true=>
     go_wp2_with fail
     refine m_ O ?_
     rintro e w6 ⟨rfl,C⟩;have d7:=Q.out w6 C;simp only[if_true]at d7;have HZ:Hid (Acc [] X w5 J w6 Xk/\St.sweep V.M (Ls.drop (k+1)) J=St.sweep V.M Ls S/\J.load<=S.load+(k+1)):=H_ (by
      obtain⟨z1,z2,z3⟩:=HC.out;refine⟨z1.below C,?_,o_⟩;rw[<-z2,St.sweep,<-I.1,<-I.2];simp)
     clear C HC a' O a0 I Q;go_wp2;go_roundw
     case rel=>exact⟨k+1,J,Xk,o_,by go_num,HZ⟩
     case measure=>simp[intOf];omega
    |false=>
     go_wp2_with fail
     refine m_ O ?_
     rintro e w6 ⟨rfl,C⟩;have d7:=Q.out w6 C;simp only[ai_,if_false]at d7;have y6:=(C.cell (p:=⟨Y.s,0,none⟩) (S_ wr _ y0)).trans y0;have b5:=H_ (a'.out w6 C);clear C y0 a' O a0 Q;go_wp2_with fail
     refine m_ b5 ?_
     rintro e w7 ⟨rfl,h',h7⟩;have HZ:Hid (Acc [] X w5 (J.remove s).1 w7 h'/\St.sweep V.M (Ls.drop (k+1)) (J.remove s).1=St.sweep V.M Ls S/\(J.remove s).1.load<=S.load+(k+1)):=H_ (by
      obtain⟨z1,z2,z3⟩:=HC.out;refine⟨h7,?_,by have:=Sd.bz1 J s;omega⟩;rw[<-z2,St.sweep,<-I.1,<-I.2];simp)
     clear h7 HC I b5;go_wp2;go_roundw
     case rel=>exact⟨k+1,_,h',o_,by go_num,HZ⟩
     case measure=>simp[intOf];omega
  ·obtain rfl:k=n:=o_
   obtain⟨z1,z2,z3⟩:=HI.out;rw[HN.out,ca_]at z2;obtain⟨X1,q1,q2,q3,q4⟩:=f7;have b6:qq5 X Y V w (St.sweep V.M S.list S) (.returned (.tuple #[])) wr:=by
    rw[<-i9.out,<-z2];exact⟨rfl,X1,q1,q2,(Chg.of_below f5.out (XY X Y)).trans q3 (fun g hg=>.inl hg),fun g hg=>(q4 g hg).imp id (g_ f5.size)⟩
   have HF:=H_ b6;clear b6 q1 q2 q3 q4 z1 z2 z3 HI a7;go_wp2;exact bodyPost_end (v:=.tuple #[]) (by simp[results,go_sem]) rfl HF
end
end Go.Proofs.YtfbkjjdfboagfaaGreatDoor
