/- Some of the texts. No conditions. -/
import Derived.Test.YtfbkjjdfboagfaaGreatDoorBunAO
import Derived.Test.YtfbkjjdfboagfaaGreatDoorBunAQ

set_option linter.unusedSimpArgs false
set_option linter.unusedVariables false
set_option maxRecDepth 100000
set_option maxHeartbeats 16000000
namespace Go.Proofs.YtfbkjjdfboagfaaGreatDoor
open Go.Proofs.Tryz Go Go.RowKit Go.Lib Go.Shelf
namespace Lg
def good1 (p:Nat×List UInt8):Bool:=(decide ((It.read p.2).2=0) &&decide (p.1=1)) &&decide ((It.read p.2).1≠[])
def rows (l:List (Nat×List UInt8)):List (List It):=l.map fun p=>(It.read p.2).1
def replay (b:List UInt8):List (List It)×Nat×Nat:=
 if (Fr.split b).2.2.2≠0/\(Fr.split b).2.2.2≠4 then ([],0,9) else
 if ((Fr.split b).1.zip (Fr.split b).2.1).all good1=true then (rows ((Fr.split b).1.zip (Fr.split b).2.1),(Fr.split b).2.2.1,0) else ([],0,9)
theorem yz4 {l:List (Nat×List UInt8)} {k:Nat} (h:k < l.length):rows (l.take (k+1))=rows (l.take k)++[(It.read l[k].2).1]:=by
 rw[<-ak_ h];simp only[rows,aK_,al_,bc_]
theorem yy2 {l:List (Nat×List UInt8)} {k:Nat} (h:k < l.length):(l.take (k+1)).all good1=((l.take k).all good1&&good1 l[k]):=by
 rw[<-ak_ h,bT_];simp only[List.all_cons,List.all_nil,Bool.and_true]
theorem vk5 {l:List (Nat×List UInt8)} {k:Nat} (h:k < l.length) (o:good1 l[k]=false):¬l.all good1=true:=fun z=>by
 have:=Y_.1 z _ (w_ h);rw[o]at this
 cases this
end Lg
theorem oy1.low {b o:Nat} {no:Option Nat} {w:World} {ls:List (List It)} {vs:List Value} (h:oy1 b no w ls vs) (C:o<=b):oy1 o none w ls vs:=
 ⟨h.1,fun i hi=>let ⟨A,k,c,h1,h2,h3,h4,h5⟩:=h.2 i hi;⟨A,k,c,h1,h2,h3,h4,fun a z=>⟨g_ C (h5 a z).1,(h5 a z).2.1,by simp⟩⟩⟩
def HNew (b:Nat) (w:World) (A:Option Addr) (n c:Nat) (ls:List (List It)):Prop:=n=ls.length/\n<=c/\c<=maxLen/\(∀a,A=some a->b<=a.block)/\∃vs,Row w w A n 1 vs/\oy1 b none w ls vs
theorem HNew.chg {b n c:Nat} {w w':World} {A:Option Addr} {ls:List (List It)} {F:List Nat} (h:HNew b w A n c ls) (k:Chg F w w') (hF:∀g∈F,g < b):HNew b w' A n c ls:=by
 obtain⟨h1,h2,h3,h4,vs,h5,z⟩:=h;exact⟨h1,h2,h3,h4,vs,(k.row h5 l_ (fun a C o=>by have:=hF _ o;have:=h4 a C;omega)).up k.size,z.step k.size (fun g g1 g2 _=>k.block g g2 (fun o=>by have:=hF _ o;omega)) (fun _ _ h=>h)⟩
theorem HNew.below {b n c:Nat} {w w':World} {A:Option Addr} {ls:List (List It)} (h:HNew b w A n c ls) (k:Below w w w'):HNew b w' A n c ls:=h.chg (F:=[]) (Chg.of_below k []) (fun _ o=>by cases o)
theorem lq5 {base:Nat} {w:World} {gk z n E H:Nat} {ks:List Nat} {bs:List (List UInt8)} (h:Bods base w (.slice (some gk) n E) (.slice (some z) n H) ks bs) (Q:ks.length=bs.length) {k:Nat} (I:k < bs.length):
  ∃x A M c,ks[k]?=some x/\w.cell? (gk,k)=some (.int .i64 (x:Int))/\w.cell? (z,k)=some (.slice A M c)/\M<=c/\c<=maxLen/\Row w w A M 1 (bts bs[k]):=by
 obtain⟨vs,J,O⟩:=h.row;obtain⟨A,M,c,e,h1,h2,h3,_⟩:=O k I;have C:=h.kinds;have o:ks[k]?=some ks[k]:=j_ o_;have c1:=C.cells (g:=gk) rfl k (.int .i64 ((ks[k]:Nat):Int)) (by simp[i64v,o]);have c2:=J.cells (g:=z) rfl k _ e;rw[vv2]at c1 c2;exact⟨ks[k],A,M,c,o,c1,c2,h1,h2,h3⟩
def tq1 (w:World) (R:List (List It)×Nat×Nat) (e:Ending) (w':World):Prop:=∃A n c,e=.returned (.tuple #[.slice A n c,(R.2.1:Int),(R.2.2:Int)])/\HNew w w' A n c R.1/\Below w w w'
theorem HNew.nil (b:Nat) (w:World):HNew b w none 0 0 []:=⟨rfl,B_ _,by unfold maxLen;omega,(fun a h=>by cases h),[],Row.nil_,⟨rfl,fun i h=>absurd h s_⟩⟩
theorem tq1.bad {w w':World} {R:List (List It)×Nat×Nat} (o:R=([],0,9)) (z:Below w w w'):tq1 w R (.returned (.tuple #[.slice none 0 0,.int .i64 0,.int .i64 9])) w':=by
 subst o;exact⟨none,0,0,rfl,HNew.nil _ _,z⟩
theorem cq4 (A:Option Addr) (N c0:Nat) (t:List UInt8) (w:World) (hN:N<=1000000) (i6:N<=c0) (hc:c0<=maxLen) (hr:Row w w A N 1 (bts t)):
  Calls prog 90 #[.slice A N c0] w (tq1 w (Lg.replay t)):=by
 obtain⟨i0,i8,i9,i',j0⟩:=info_parts ij3;have d4:=ik3 A N c0 t w o_ i6 hc hr;have I:=Fr.pv2 t;have a6:=Fr.bv3 t;have a7:=Fr.tw2 t;have l4:=hr.xk;have a8:Lg.replay t=if (Fr.split t).2.2.2≠0/\(Fr.split t).2.2.2≠4 then ([],0,9) else if ((Fr.split t).1.zip (Fr.split t).2.1).all Lg.good1=true then (Lg.rows ((Fr.split t).1.zip (Fr.split t).2.1),(Fr.split t).2.2.1,0) else ([],0,9):=rfl
 generalize Lg.replay t=R at *;generalize Fr.split t=sp at *;obtain⟨ks,bs,stop,er⟩:=sp;simp only at d4 I a6 a8 a7;have f0:=H_ d4;have b6:=H_ a6;have a2:=H_ a8;clear d4 a6 a8 hr;go_enter func90,ntmps90;go_wp2_with fail;refine f0.mono ?_;rintro e w1 ⟨kv,bv,rfl,C,a5⟩;clear f0;obtain⟨l6,f1,-⟩:=C.row;obtain⟨Ak,kc,j2,-⟩:=ay C.kinds;obtain⟨Ab,bc,j3,-⟩:=ay f1;subst j2 j3;rw[I]at C ⊢;obtain⟨n,hn⟩:∃n,bs.length=n:=⟨_,rfl⟩;rw[hn]at C a7 ⊢;have l7:n *12<=N:=o_
 clear f1
 by_cases b5:er≠0/\er≠4
 ·have e1:((er:Int)==0)=false:=by simp;omega
  have e2:((er:Int)==4)=false:=by simp;omega
  have e3:((er:Int) !=0)=true:=by simp;omega
  have e4:((er:Int) !=4)=true:=by simp;omega
  have HB:=H_ (tq1.bad (a2.trans (if_pos b5)) a5);clear b5 C a2 b6 a5;go_wp2;refine bodyPost_ret (v:=.tuple #[.slice none 0 0,.int .i64 0,.int .i64 9]) (by simp[results,go_sem]) rfl HB
 have d6:=a2.trans (if_neg b5);obtain⟨Z,hZ⟩:=n_ (ks.zip bs);rw[<-hZ]at d6;have l9:Z.length=n:=by rw[hZ,List.length_zip];omega
 have f2:er=0\/er=4:=o_
 have f3:=H_ d6;have j5:=H_ hZ;clear d6 hZ a2 b5
 rcases f2 with rfl|rfl
 all_goals
  go_wp2
  go_loopw [2,3,26] (fun lv st i wr=>∃(k:Nat) (v:Value) (vs:List Value) (ls:List (List It)),k<=n/\lv=v/\st=.int .i64 stop/\i=.int .i64 k/\Hid (ls.length=k/\ls=Lg.rows (Z.take k)/\(Z.take k).all Lg.good1=true)/\wr.ownsRow w1 34 1 v k vs/\oy1 w1 v.ownBlock wr ls vs/\Below w1 w1 wr) (fun _ _ i _=>n - (intOf i).toNat)
  case atStart=>exact⟨0,_,[],[],A_ _,rfl,rfl,rfl,H_ ⟨rfl,rfl,rfl⟩,G_ _ _ _ _,⟨rfl,fun i h=>absurd h s_⟩,Below.refl _ _⟩
  case round=>
   obtain⟨k,v,vs,ls,hk,rfl,rfl,rfl,HI,o,z,O⟩:=hrel;obtain⟨A0,U,j6,f4,f5,-⟩:=ay o;subst j6
   by_cases m0:k < n
   ·have a0:=C.below O
    obtain⟨gk,gb,m1,m2,ek,eb⟩:=av3 a0 I o_;rw[hn]at ek eb;injection ek with ek _ j7;injection eb with eb _ j8;subst ek j7 eb j8;obtain⟨x,Ab,Mb,cb,f6,d1,d2,f7,f8,a9⟩:=lq5 a0 I (k:=k) o_;have f9:k < bs.length:=o_
    have g4:Z[k]'o_=(x,bs[k]):=by
     have hx:=C_.1 f6;simp only[j5.out,List.getElem_zip,hx.2]
    have a':=Lg.yz4 (l:=Z) (k:=k) o_;have d8:=Lg.yy2 (l:=Z) (k:=k) o_;have d9:Lg.good1 (Z[k]'o_)=false->¬Z.all Lg.good1=true:=Lg.vk5 (l:=Z) (k:=k) o_;rw[g4]at a' d8 d9;have d':=b6.out bs[k] (w_ f9);have j9:=a9.xk;have b8:=gw3 Ab Mb cb bs[k] wr o_ f7 f8 a9;have e0:Lg.good1 (x,bs[k])=((decide ((It.read bs[k]).2=0) &&decide (x=1)) &&decide ((It.read bs[k]).1≠[])):=rfl;generalize Lg.good1 (x,bs[k])=gd at *;simp only at a';generalize It.read bs[k]=T at *;obtain⟨l,g8⟩:=T;simp only at a' e0;have b9:=H_ b8;have g':=H_ d9;have J:=H_ (d_ a' (d_ d8 e0));clear b8 d9 a' d8 e0 g4 f6 d' j9 a9 f9 a0 f7 f8;go_wp2_with fail;refine b9.mono ?_;rintro e w2 ⟨A1,k1,c1,rfl,e6,H,Q⟩;simp only at e6 H;have e7:=H_ e6;clear e6;have d3:w2.cell? (gk,k)=some (.int .i64 x):=(X_ (Q.block gk (lt_of_cell d1))).trans d1;have E:gd=false->Hid (tq1 w R (.returned (.tuple #[.slice none 0 0,.int .i64 0,.int .i64 9])) w2):=fun h=>H_ (tq1.bad (f3.trans (if_neg (g'.out h))) (az (az a5 O) Q));clear d1 d2 b9 g'
    by_cases q1:g8=0
    case neg=>
     have e1:((g8:Int) !=0)=true:=by simp;omega
     have HB:=E (by rw[J.2.2];simp[q1]);clear E H J HI o z q1;go_wp2;refine bodyPost_ret (v:=.tuple #[.slice none 0 0,.int .i64 0,.int .i64 9]) (by simp[results,go_sem]) rfl HB
    subst q1
    by_cases q2:x=1
    case neg=>
     have e1:((x:Int) !=1)=true:=by simp;omega
     have e2:((x:Int)==1)=false:=by simp;omega
     have HB:=E (by rw[J.2.2];simp[q2]);clear E H J HI o z q2;go_wp2;refine bodyPost_ret (v:=.tuple #[.slice none 0 0,.int .i64 0,.int .i64 9]) (by simp[results,go_sem]) rfl HB
    subst q2
    by_cases q3:k1=0
    ·subst q3
     have HB:=E (by rw[J.2.2];simp[aN_ e7.symm]);clear E H J HI o z;go_wp2;refine bodyPost_ret (v:=.tuple #[.slice none 0 0,.int .i64 0,.int .i64 9]) (by simp[results,go_sem]) rfl HB
    have e3:((k1:Int)==0)=false:=by simp;omega
    have h0:gd=true:=by
     rw[J.2.2];have:l≠[]:=fun e=>q3 (by rw[e7.out,e];rfl);simp[this]
    obtain⟨a1,rfl,k0⟩:∃a,A1=some a/\a.block < (w2:Nat):=by
     obtain⟨a,e1,e2⟩:=H.row.some_ (by rw[iw];have:=e7.out;omega);exact⟨a,e1,e2⟩
    have m7:=H.low a1 rfl;have e':∀g,(Value.slice A0 k U).ownBlock=some g->g < (wr:Nat):=fun g hg=>(o.lt g hg).2;have a4:oy1 w1 (Value.slice A0 k U).ownBlock w2 (ls++[l]) (vs++[.slice (some a1) k1 c1]):=by
     have h1:=z.step (no':=(Value.slice A0 k U).ownBlock) Q.size (fun g _ h5 _=>Q.block g h5) (fun g _ h=>h);refine h1.snoc H.nc H.cm H.row (fun a ha=>?_);injection ha with ha;subst ha;refine⟨by have:=O.size;omega,k0,fun e=>?_⟩;have:=e' _ e.symm;omega
    have b0:=az O Q;have b1:=(own_below o Q).alloc (.cells #[.slice (some a1) k1 c1] 34);have b2:=b0.alloc b0.size (.cells #[.slice (some a1) k1 c1] 34);have k2:=H_ a4;have k3:=H_ b2;have k4:=H_ b1;have k5:=H_ (d_ e' (d_ h0 Q.size));have h7:(w1:Nat)<=(w2.alloc (.cells #[.slice (some a1) k1 c1] 34)).heap.size:=b2.size;clear a4 b2 b1 e' h0 E H z o b0 Q;go_upto_region 10 with (fail)
    go_wp2_with (at_builtin;refine iq ?_);refine gz (xw rfl (.tmp 50) (.tmp 52) _ rfl (w1:Nat) 34 i0 _ 1 24 underlying108 i8 i9 i' j0 rfl o_ w1 k3.out h7 (.slice A0 k U) k vs rfl k4.out _ (some ⟨w2,0,none⟩) 1 1 o_ [.slice (some a1) k1 c1] rfl (Row.new w2 #[.slice (some a1) k1 c1] 34 rfl) (by simp[Value.oneCell']) (k+1) _ rfl rfl (by unfold maxLen;omega) o_ ?_);intro A4 c4 w3 b3 h8 h9 _ _ c9;have HG:=H_ (d_ b3 (d_ h8 (d_ h9 c9)));clear b3 h8 h9 c9;go_wp2;go_roundw
    case rel=>
     obtain⟨p1,p2,p3,p4⟩:=HG.out;have k7:=k2.step (no':=(Value.slice A4 (k+1) c4).ownBlock) (w':=w3)
      (by have:=p3.size;rw[F_]at this;omega)
      (fun g g1 g2 g3=>by rw[p3.block g (by rw[F_];omega) g3,Below.heap_alloc _ _ g g2])
      (fun g g1 g2=>by
       rcases p4 with h|h
       ·rw[h];exact g2
       ·rw[h,F_]
        intro e;injection e with e;omega)
     refine⟨k+1,_,_,ls++[l],o_,rfl,rfl,by go_num,H_ ⟨by rw[e_,HI.1];rfl,?_,?_⟩,p1,k7,p2⟩
     ·rw[J.1,<-HI.2.1]
     ·rw[J.2.1,HI.2.2,k5.2.1]
      rfl
    case measure=>simp[intOf];omega
   ·obtain rfl:k=n:=o_
    have d0:tq1 w R (.returned (.tuple #[.slice A0 k U,(stop:Int),.int .i64 0])) wr:=by
     obtain⟨p1,p2,p3⟩:=HI.out;rw[i_ o_]at p2 p3;rw[f3.out,if_pos p3];exact⟨A0,k,U,rfl,⟨by rw[<-p2];exact p1.symm,f4,f5,fun a ha=>by subst ha;exact g_ a5.size (o.lt _ rfl).1,vs,Row.own o,by rw[<-p2];exact z.low a5.size⟩,az a5 O⟩
    have HF:=H_ d0;clear d0 o z HI;go_wp2;refine bodyPost_ret (v:=.tuple #[.slice A0 k U,(stop:Int),.int .i64 0]) (by simp[results,go_sem]) rfl HF
def uw4 (X:Dw) (nm:List UInt8) (w:World) (ls:List (List It)) (stop:Nat) (e:Ending) (w':World):Prop:=∃g A n c,e=.returned (.tuple #[.pointer (some ⟨g,0,none⟩),.slice A n c,.bool true,.int .i64 0])/\LgAt w' g X.d nm stop ls.length/\(w:Nat)<=g/\HNew w w' A n c ls/\Below w w w'
theorem my4 {X:Dw} {S:Sd} {w:World} (h:Dm w X S) (nm:List UInt8) (b7:nm.length<=1000) (t:List UInt8) (ls:List (List It)) (a2:S.read nm=(t,0)) (z:Lg.replay t=(ls,t.length,0)):
  Calls prog 39 #[X.d,.string (str nm)] w (uw4 X nm w ls t.length):=by
 have hl:=Sd.uk2 h.wf nm;have J:=cw2 X S (str nm) (by rw[jy];unfold maxLen;omega) h.wf w h.dk;rw[kz,a2]at J;rw[a2]at hl;simp only at J hl;have a9:=H_ J;have a':=H_ z;clear J z a2 h;go_enter func39,ntmps39;go_wp2_with fail;refine a9.mono ?_;rintro e w1 ⟨A1,c1,rfl,o,E⟩;have H:t.length<=c1/\c1<=maxLen:=by
  obtain⟨A',c',e,h1,h2,_⟩:=ay o;injection e with _ e2 e3;omega
 have z:=cq4 A1 t.length c1 t w1 o_ H.1 H.2 (Row.own o);rw[a'.out]at z;have b0:=H_ z;clear z o a9 a';go_wp2_with fail;refine b0.mono ?_;rintro e C ⟨A2,n2,c2,rfl,a5,a6⟩;have Q:=az E a6;have b1:=b_ C (.cells #[X.d,.string (str nm),(t.length:Int),.int .i64 0,.bool false] 169);have O:=BoxO.new C #[X.d,.string (str nm),(t.length:Int),.int .i64 0,.bool false] 169;have c3:=O.cell 3;have f3:=O.free 3;have I:=O.store 3 (.int .i64 n2);simp only[gE0,gE1,List.set]at c3 I;have a7:=H_ (sk1 C 3 0 (n2:Int) _ c3 f3);have a8:Below C C ((C.alloc (.cells #[X.d,.string (str nm),(t.length:Int),.int .i64 0,.bool false] 169)).setCell (C,3) (.int .i64 n2)):=b1.setCell l_ _;have s4:=I.c4;obtain⟨U,hU⟩:=n_ ((C.alloc (.cells #[X.d,.string (str nm),(t.length:Int),.int .i64 0,.bool false] 169)).setCell (C,3) (.int .i64 n2));rw[<-hU]at I a8 s4 a7;have a0:∀W,Below U U W->uw4 X nm w ls t.length (.returned (.tuple #[(C:Nat),.slice A2 n2 c2,.bool true,.int .i64 0])) W:=fun W hW=>by
  have hn:=a5.1;simp only at hn;have a1:=az a8 hW;refine⟨(C:Nat),A2,n2,c2,rfl,by rw[<-hn];exact I.below hW,g_ E.size a6.size,?_,az Q a1⟩;obtain⟨z1,z2,z3,z4,vs,z5,z6⟩:=a5.below a1;exact⟨z1,z2,z3,fun a ha=>g_ E.size (z4 a ha),vs,z5,z6.low E.size⟩
 have HF:=H_ a0;clear a0 a8 I O b1 a5 Q a6 E b0;go_wp2_with fail;refine a7.mono ?_;rintro e w3 ⟨rfl,rfl⟩;clear a7 c3 f3 hU;go_upto_region 11 with (fail)
 go_quiet (fail)
 go_wp2;refine bodyPost_ret (v:=.tuple #[(C:Nat),.slice A2 n2 c2,.bool true,.int .i64 0]) (by simp[results,go_sem]) rfl ?_;exact HF.out _ (below_drewN b0_ nq)
end Go.Proofs.YtfbkjjdfboagfaaGreatDoor
