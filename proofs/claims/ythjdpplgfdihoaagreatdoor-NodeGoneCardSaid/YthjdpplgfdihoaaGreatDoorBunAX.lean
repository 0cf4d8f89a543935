/- Texts StoG, StoF, StoK in one. No conditions. -/
import Derived.Test.YthjdpplgfdihoaaGreatDoorBunAU
import Derived.Test.YthjdpplgfdihoaaGreatDoorBunAV

set_option linter.unusedSimpArgs false
set_option linter.unusedVariables false
set_option maxRecDepth 100000
set_option maxHeartbeats 16000000
namespace Go.Proofs.YthjdpplgfdihoaaGreatDoor
section
open Go Go.RowKit Go.Lib Go.Shelf
variable {w w1 w2:World} {X X1 X2:Dw} {S S1 S2:Sd} {Y Y1 Y2:Yw} {V V1 V2:Sv}
theorem SvAt.az4 (h:SvAt w X S Y V) (e:X1.d=X.d) (hd:Dm w1 X1 S1) (c:Chg X.foot w w1) (hf:∀g∈X1.foot,g∈X.foot∨w.heap.size≤g):SvAt w1 X1 S1 Y V∧Chg (XY X Y) w w1∧(∀g∈XY X1 Y,g∈XY X Y∨w.heap.size≤g):=by
 have hn:∀g∈Y.foot,g∉X.foot:=h.apart.x;have hc2:Chg (XY X Y) w w1:=c.mono fun g hg=>.inl (s_ _ hg);have hf2:∀g∈XY X1 Y,g∈XY X Y∨w.heap.size≤g:=fun g hg=>by
  rcases q_.1 hg with h1|h1
  ·rcases hf g h1 with h2|h2
   ·exact .inl (s_ _ h2)
   ·exact .inr h2
  ·exact .inl (k_ _ h1)
 refine⟨⟨hd,by rw[e];exact h.box.chg c (hn _ (Yw.aj.2 (.inl rfl))),by rw[e];exact h.man.chg c (hn _ (Yw.aj.2 (.inr (.inl rfl)))),h.row.step c hf,h.pout,by rw[e];exact h.log.chg c (hn _ (Yw.aj.2 (.inr (.inr (.inl rfl))))),h.mem.chg c (fun g hg=>hn g (Yw.aj.2 ?_)),h.its,h.tabs.step hc2 hf2,h.st.step hc2 hf2,⟨fun g hg hm=>?_,h.apart.s,h.apart.m,h.apart.g⟩,h.ng⟩,hc2,hf2⟩
 ·rcases g_.1 hg with rfl|hg
  ·exact .inr (.inr (.inr (.inl rfl)))
  ·exact .inr (.inr (.inr (.inr hg)))
 ·rcases hf g hm with h1|h1
  ·exact hn g hg h1
  ·have:=h.ylt g hg
   omega
theorem Way.az4 {w0:World} {X0:Dw} (k:Way w0 X0 Y V w X S) (e:X1.d=X.d) (hd:Dm w1 X1 S1) (c:Chg X.foot w w1) (hf:∀g∈X1.foot,g∈X.foot∨w.heap.size≤g):Way w0 X0 Y V w1 X1 S1∧Chg (XY X Y) w w1∧∀g∈XY X1 Y,g∈XY X Y∨w.heap.size≤g:=by
 obtain⟨h1,c1,f1⟩:=k.at_.az4 e hd c hf;refine⟨⟨h1,e.trans k.d,k.c.trans c1 k.f,fun g hg=>?_⟩,c1,f1⟩
 rcases f1 g hg with q|q
 ·exact k.f g q
 ·exact .inr (h_ k.c.size q)
def vw4 (X:Dw) (Y:Yw) (w:World) (V:Sv) (n:Int) (R:Sd×Nat) (e:Ending) (w':World):Prop:=∃(p:Option Addr) (n':Int) (X':Dw),e=.returned (.tuple #[.pointer p,.int .i64 n',.int .i64 (R.2:Int)])∧X'.d=X.d∧SvAt w' X' R.1 Y V∧Chg (XY X Y) w w'∧(∀g∈XY X' Y,g∈XY X Y∨w.heap.size≤g)∧
 (R.2=0→∃g,p=some ⟨g,0,none⟩∧n'=n∧LgAt w' g X.d (Mn.name Mn.kLog n) 0 0∧w.heap.size≤g∧g∉XY X' Y)
theorem kz30 {P S a oi v} (h:Hv P S a oi v:=by intro w hSw;(have k0:=hSw.cell 0;simp only[Yw.cells,gE0]at k0);go_simp;try (with_reducible rfl)):Hv P S a oi v:=h
theorem oj3 (h:SvAt w X S Y V) (hld:S.load≤1000000000000):
  Calls Tryz.prog 134 #[.pointer (some ⟨Y.s,0,none⟩),.slice none 0 0] w (vw4 X Y w V (St.number S) (St.fresh S)):=by
 have hylt:=h.ylt;obtain⟨n,hn⟩:=n_ (St.number S);have hnr:=oy1 S;have hnn:(Mn.name Mn.kLog n).length≤1000:=pj1 _ _;obtain⟨R,hR⟩:=n_ (St.fresh S);have hR0:St.fresh S=R:=hR.symm;rw[hR0];unfold St.fresh at hR;rw[←hn]at hR hnr ⊢;have hnu:=wy1 h;rw[←hn]at hnu;have k1:Way w X Y V w X S:=Way.start h;clear hR0 hn
 by_cases hbig:1073741824 < n
 ·rw[if_pos hbig]at hR hnu
  have HNU:=H_ hnu;have HR:=H_ hR;clear hnu hR h;go_enter Tryz.func134,Tryz.ntmps134;go_wp2_with fail
  with_reducible refine HNU.out.mono ?_
  rintro e w3 ⟨rfl,hb3⟩;have k3:=k1.below hb3;have HK:=H_ k3;clear k1 k3 hb3;go_wp2;refine bodyPost_ret (v:=.tuple #[.pointer none,.int .i64 0,.int .i64 65]) (by simp[results,go_sem]) rfl ?_;rw[HR.out];exact⟨_,_,_,rfl,HK.out.d,HK.out.at_,HK.out.c,HK.out.f,fun h0=>by cases h0⟩
 rw[if_neg hbig]at hR hnu;obtain⟨nm,hnm⟩:=n_ (Mn.name Mn.kLog n);rw[←hnm]at hR hnn;replace hR:R=if (S.create nm).2≠0 then S.create nm else (S.create nm).1.sync nm:=hR
 have hname:∀W,Below w.heap.size w W→Calls Tryz.prog 83 #[.string { data:=#[108,111,103] },.int .i64 n] W fun e w'=>e=.returned (.string (str nm))∧Below W.heap.size W w':=fun W hb=>by
  have:=name_any (str Mn.kLog) (by rw[kz];decide) n (by omega) W (k1.below hb).at_.dm.env;rw[nz,←hnm]at this;exact this
 have hnew:∀W,Below w.heap.size w W→Calls Tryz.prog 151 #[.pointer (some ⟨X.d,0,none⟩),.string (str nm)] W (ij4 X W nm (S.create nm)):=fun W hb=>jk3 X S nm W hnn (by omega) (h.dm.below hb);obtain⟨a,ha⟩:=n_ (S.create nm);rw[←ha]at hR hnew;obtain⟨S5,er5⟩:=a;simp only at hR;have HNU:=H_ hnu;have HNM:=H_ hname;have HX:=H_ h.box;have HNR:=H_ hnr;have HH:=H_ h;have HNM2:=H_ hnm;clear hnu ha hname hbig hnr hnm
 by_cases he5:er5=0
 ·subst he5
  rw[if_neg (by simp)]at hR;have hnew2:∀W,Below w.heap.size w W→Calls Tryz.prog 151 #[.pointer (some ⟨X.d,0,none⟩),.string (str nm)] W fun e w'=>∃g X',e=.returned (.tuple #[.pointer (some ⟨g,0,none⟩),.int .i64 0])∧X'.d=X.d∧Dm w' X' S5∧Chg X.foot W w'∧(∀g∈X'.foot,g∈X.foot∨W.heap.size≤g)∧LgAt w' g X.d nm 0 0∧W.heap.size≤g∧g∉X'.foot:=fun W hb=>(hnew W hb).mono fun e w' ⟨X',q1,q2,q3,q4,q5⟩=>by
   rcases q5 with ⟨q,_⟩|⟨_,g,q6,q7,q8,q9⟩
   ·exact absurd rfl q
   ·exact⟨g,X',q6,q1,q2,q3,q4,q7,q8,q9⟩
  have HNEW:=H_ hnew2;have HR:=H_ hR;clear hnew hnew2 hR h;go_enter Tryz.func134,Tryz.ntmps134;go_wp2_with fail
  with_reducible refine HNU.out.mono ?_
  rintro e w3 ⟨rfl,hb3⟩;have hdb:=ak hb3;go_wp2_with fail;refine wp_region_held_drew (S:=fun w'=>BoxO w' 153 Y.s (Y.cells X.d V)) rfl (HX.out.below hdb) (fun hSw=>?_);refine w_v 0 hSw ?_ (k:=kz30);go_simp;refine w_v 1 hSw ?_ (k:=kz30);go_simp;refine w_v 2 hSw ?_ (k:=kz30);go_simp;refine w_v 3 hSw ?_ (k:=kz30);go_simp;refine w_v 4 hSw ?_ (k:=kz30);go_simp;refine w_r 5 fun K hK=>?_;go_simp
  with_reducible refine(HNM.out _ hdb).mono ?_
  rintro e w4 ⟨rfl,hb4⟩;go_simp;refine hK.out _ _ (hSw.below hb4) ?_;clear hSw hK K;intro hSw;go_simp;refine w_r 6 fun K hK=>?_;go_simp
  with_reducible refine(HNEW.out _ (az hdb hb4)).mono ?_
  rintro e w5 ⟨g,X5,rfl,e5,hdm5,hc5,hf5,hlg,hgl,hgo⟩;go_simp;refine hK.out _ _ (hSw.chg hc5 (HH.out.apart.x _ (Yw.aj.2 (.inl rfl)))) ?_;clear hSw hK K;intro hSw;go_simp;refine w_v 7 hSw ?_ (k:=kz30);go_simp;refine w_v 8 hSw ?_ (k:=kz30);go_simp;refine w_v 9 hSw ?_ (k:=kz30);go_simp;refine w_v 10 hSw ?_ (k:=kz30);go_simp;refine w_v 11 hSw ?_ (k:=kz30);go_simp;refine wpAnyH_done (by kernel_rfl) ?_ _;have hb4w:=az hdb hb4;obtain⟨k5,hc5x,hf5x⟩:=(k1.below hb4w).az4 e5 hdm5 hc5 hf5;have hgw:w.heap.size≤g:=h_ hb4w.size hgl;have hgy:g∉XY X5 Y:=fun hm=>by
   rcases q_.1 hm with q|q
   ·exact hgo q
   ·have:=hylt g q
    omega
  have hg5:=hlg.lt;have hsy:=yq1 X5 S5 g nm 0 0 w5 hnn hdm5 (by rw[e5];exact hlg) hgo;obtain⟨b,hb⟩:=n_ (S5.sync nm);rw[←hb]at hsy;have HRb:Hid (R=b):=H_ (HR.out.trans hb.symm);obtain⟨S6,er6⟩:=b;simp only at hsy;have HSY:=H_ hsy;have HL:=H_ hlg;have HK5:=H_ k5;have HG:=H_ (d_ hgw (d_ hgy (d_ hg5 hgo)));have HY:=H_ hylt;clear hsy hlg k5 hgw hgy hg5 hgo hb hc5x hf5x hc5 hf5 hdm5 e5 hb4w hb4 hdb hb3 hSw HNEW HNM HX HR HNU k1 hylt HH;go_wp2
  go_loopw [36] (fun i wr=>i=.int .i64 0∧wr=w5) (fun i _=>0)
  case atStart=>exact⟨rfl,rfl⟩
  case round=>
   obtain⟨rfl,rfl⟩:=hrel;go_wp2_with fail
   with_reducible refine HSY.out.mono ?_
   rintro e w6 ⟨rfl,X6,e6,hd6,hc6,hf6⟩;obtain⟨k6,hc6x,hf6x⟩:=HK5.out.az4 e6 hd6 hc6 hf6;have hl6:=HL.out.chg hc6 HG.out.2.2.2;have hg6:g∉XY X6 Y:=fun hm=>by
    rcases hf6x g hm with q|q
    ·exact HG.out.2.1 q
    ·have:=HG.out.2.2.1
     omega
   have HZ:=H_ (d_ k6 (d_ hl6 hg6));clear k6 hl6 hg6 hc6 hf6 hd6 e6 hc6x hf6x HSY;go_wp2;refine bodyPost_ret (v:=.tuple #[.pointer (some ⟨g,0,none⟩),.int .i64 n,.int .i64 (er6:Int)]) (by simp[results,go_sem]) rfl ?_;rw[HRb.out];exact⟨_,_,X6,rfl,HZ.out.1.d,HZ.out.1.at_,HZ.out.1.c,HZ.out.1.f,fun _=>⟨g,rfl,rfl,by rw[←HNM2.out];exact HZ.out.2.1,HG.out.1,HZ.out.2.2⟩⟩
 ·rw[if_pos he5]at hR
  have hnew2:∀W,Below w.heap.size w W→Calls Tryz.prog 151 #[.pointer (some ⟨X.d,0,none⟩),.string (str nm)] W fun e w'=>∃X',e=.returned (.tuple #[.pointer none,.int .i64 (er5:Int)])∧X'.d=X.d∧Dm w' X' S5∧Chg X.foot W w'∧(∀g∈X'.foot,g∈X.foot∨W.heap.size≤g):=fun W hb=>(hnew W hb).mono fun e w' ⟨X',q1,q2,q3,q4,q5⟩=>by
   rcases q5 with ⟨_,q⟩|⟨q,_⟩
   ·exact⟨X',q,q1,q2,q3,q4⟩
   ·exact absurd q he5
  have HNEW:=H_ hnew2;have HR:=H_ hR;clear hnew hnew2 hR h;go_enter Tryz.func134,Tryz.ntmps134;go_wp2_with fail
  with_reducible refine HNU.out.mono ?_
  rintro e w3 ⟨rfl,hb3⟩;have hdb:=ak hb3;go_wp2_with fail;refine wp_region_held_drew (S:=fun w'=>BoxO w' 153 Y.s (Y.cells X.d V)) rfl (HX.out.below hdb) (fun hSw=>?_);refine w_v 0 hSw ?_ (k:=kz30);go_simp;refine w_v 1 hSw ?_ (k:=kz30);go_simp;refine w_v 2 hSw ?_ (k:=kz30);go_simp;refine w_v 3 hSw ?_ (k:=kz30);go_simp;refine w_v 4 hSw ?_ (k:=kz30);go_simp;refine w_r 5 fun K hK=>?_;go_simp
  with_reducible refine(HNM.out _ hdb).mono ?_
  rintro e w4 ⟨rfl,hb4⟩;go_simp;refine hK.out _ _ (hSw.below hb4) ?_;clear hSw hK K;intro hSw;go_simp;refine w_r 6 fun K hK=>?_;go_simp
  with_reducible refine(HNEW.out _ (az hdb hb4)).mono ?_
  rintro e w5 ⟨X5,rfl,e5,hdm5,hc5,hf5⟩;go_simp;refine hK.out _ _ (hSw.chg hc5 (HH.out.apart.x _ (Yw.aj.2 (.inl rfl)))) ?_;clear hSw hK K;intro hSw;go_simp;refine w_v 7 hSw ?_ (k:=kz30);go_simp;refine w_v 8 hSw ?_ (k:=kz30);go_simp;refine w_v 9 hSw ?_ (k:=kz30);go_simp;refine w_v 10 hSw ?_ (k:=kz30);go_simp;refine w_v 11 hSw ?_ (k:=kz30);go_simp;refine wpAnyH_done (by kernel_rfl) ?_ _;obtain⟨k5,_,_⟩:=(k1.below (az hdb hb4)).az4 e5 hdm5 hc5 hf5;have e5i:((er5:Int)==0)=false:=by simp;omega
  have HZ:=H_ k5;have HE:=H_ he5;clear k5 hc5 hf5 hdm5 e5 hb4 hdb hb3 hSw HNEW HNM HX HNU k1 HH he5;go_wp2;refine bodyPost_ret (v:=.tuple #[.pointer none,.int .i64 0,.int .i64 (er5:Int)]) (by simp[results,go_sem]) rfl ?_;rw[HR.out];exact⟨_,_,_,rfl,HZ.out.d,HZ.out.at_,HZ.out.c,HZ.out.f,fun h0=>absurd h0 HE.out⟩
end
section
open Go Go.RowKit Go.Lib Go.Shelf
variable {w w1 w2:World} {X X1 X2:Dw} {S S1 S2:Sd} {Y Y1 Y2:Yw} {V V1 V2:Sv}
theorem ay2:(Tryz.prog.info? 173).map (fun i=>(i.zero,i.size,i.bytes))=some (some (.agg #[.int .i64 0,.int .i64 0,.pointer none]),3,24):=by kernel_rfl
theorem rj1 (q:List Tq):∀u∈hcells q,u.oneCell'=true:=by
 intro u hu;simp only[hcells,O_,g_,ar_,or_false]at hu;obtain⟨a,_,rfl|rfl|rfl⟩:=hu<;>rfl
theorem dx2 (A:Option Addr) (n c:Nat) (q:List Tq) (w:World) (hn:n≤1000000) (h0:A=none→n=0∧c=0) (hr:Row w.heap.size w A n 3 (hcells q)):
  Calls Tryz.prog 100 #[.slice A n c] w fun e w'=>∃A' c',e=.returned (.slice A' n c')∧w'.ownsRow w.heap.size 173 3 (.slice A' n c') n (hcells q)∧Below w.heap.size w w':=by
 obtain⟨i0,hi0,hz0,hz1,hz2⟩:=info_parts ay2;have HR:=H_ hr;have hlen:=hr.len;clear hr
 cases A with
 |none=>
  obtain⟨rfl,rfl⟩:=h0 rfl;rw[qy]at hlen;have hq:q=[]:=U_.1 (by omega);subst hq;clear HR hlen;have hnil:∀W,(binOp .eql 141 (.slice none 0 0) (.slice none 0 0)).run Tryz.prog W=.ok (.bool true) W:=fun W=>by kernel_rfl
  go_enter Tryz.func100,Tryz.ntmps100;go_wp2;go_ret;exact⟨none,0,rfl,E_ _ _ _ _,Below.refl _ _⟩
 |some p=>
  clear hlen h0;go_enter Tryz.func100,Tryz.ntmps100;have ho0:(w.alloc (.cells #[] 173)).ownsRow w.heap.size 173 3 (.slice (some ⟨w.heap.size,0,none⟩) 0 0) 0 []:=⟨rfl,.inr ⟨w.heap.size,0,#[],rfl,x_ _,heap_alloc_new w _,x_ _,by decide,rfl,rfl⟩⟩;have hb0:=b_ w (.cells #[] 173);have HO:=H_ ho0;have HB:=H_ hb0;have HR2:=H_ (HR.out.below hb0);clear ho0 hb0;have hnil:∀W,(binOp .eql 141 (.slice (some p) n c) (.slice none 0 0)).run Tryz.prog W=.ok (.bool false) W:=fun W=>Lib.run_eql_slice_some_nil (e:=173) W _ _ _ (by kernel_rfl);go_wp2_with (at_builtin;refine iy ?_);refine gz (jq rfl (.tmp 5) (.tmp 6) _ rfl w.heap.size 173 i0 _ 3 24 Tryz.underlying141 hi0 hz0 hz1 hz2 rfl (by omega) w HB.out HB.out.size _ 0 [] rfl HO.out w.heap.size _ n c (hcells q) rfl HR2.out (rj1 q) n _ (ag_ n) (y_ _) (by unfold maxLen;omega) (by omega) ?_);intro A3 c3 w3 z1 z2 z3 z4 z5;have HF:=H_ z1;clear z1 z3 HO HB HR2;go_wp2;go_ret;exact⟨A3,c3,rfl,HF.out,z2⟩
theorem kz23 {P S a oi v} (h:Hv P S a oi v:=by intro w hSw;(have k0:=hSw.1.c0;have k1:=hSw.2.1.c0;have k2:=hSw.2.2.c0);go_simp;try (with_reducible rfl)):Hv P S a oi v:=h
theorem yz2 {w0:World} {X0:Dw} {S0:Sd} {P1:Sl} {M1:Gs} {b1:Bool} (h0:SvAt w0 X0 S0 Y V) (hc:Chg (XY X0 Y) w0 w1) (hf:∀g∈XY X1 Y,g∈XY X0 Y∨w0.heap.size≤g) (h:SvAt w1 X1 S1 { Y with P:=P1 } { V with M:=M1,only:=b1 })
  (gt gg gs g':Nat) (T:Sl) (q:List Tq) (n:Int) (ts:List ((Int×Int)×List (List It))) (bt:BoxO w1 141 gt [.slice T.a T.n T.c]) (bg:BoxO w1 140 gg [.pointer (some ⟨g',0,none⟩)]) (bs:BoxO w1 51 gs [.pointer (some ⟨Y.s,0,none⟩)])
  (ngt:gt≠Y.s) (ngg:gg≠Y.s) (ngs:gs≠Y.s) (hl:LgAt w1 g' X1.d (Mn.name Mn.kLog n) 0 0) (hg0:w0.heap.size≤g') (hg1:g'∉XY X1 Y) (hP:P1=Y.P∨∀a,P1.a=some a→g' < a.block) (ht:qx (g'::XY X1 Y) w1 fun w=>ex1 w T q ts):
  Calls Tryz.prog 136 #[.pointer (some ⟨gt,0,none⟩),.pointer (some ⟨gg,0,none⟩),.pointer (some ⟨gs,0,none⟩)] w1 fun e w'=>e=.returned (.tuple #[])∧ow1 w0.heap.size X1 { Y with P:=P1 } w1 w' S1 (St.turned n ts { V with M:=M1,only:=b1 }):=by
 have hyl:=h.lt;have hnx:∀g∈Y.foot,g∉X1.foot:=h.apart.x;have aps:Y.s∉Y.m::Y.g::Y.mm::skF Y.L Y.ns:=h.apart.s;have apm:Y.m∉Y.g::Y.mm::skF Y.L Y.ns:=h.apart.m;have hsx:Y.s∈Y.foot:=Yw.aj.2 (.inl rfl);have hmx:Y.m∈Y.foot:=Yw.aj.2 (.inr (.inl rfl));have hgl:=hl.lt;have hfin:∀(mm L:Nat) (ns:List Nd) (w':World),Chg [Y.s] w1 w'→BoxO w' 153 Y.s ({ Y with P:=P1,g:=g',mm:=mm,L:=L,ns:=ns,T:=T,q:=q }.cells X1.d { V with M:=M1,only:=b1 })→MmAt w' mm L ns→its ns=[]→(∀g∈mm::skF L ns,w1.heap.size≤g)→ow1 w0.heap.size X1 { Y with P:=P1 } w1 w' S1 (St.turned n ts { V with M:=M1,only:=b1 }):=by
  intro mm L ns w' c hbx hmm hits hlow;have c2:Chg (XY X1 Y) w1 w':=c.mono fun g hg=>.inl (by rw[c_.1 hg];exact k_ _ hsx);have hf2:∀g∈XY X1 { Y with P:=P1,g:=g',mm:=mm,L:=L,ns:=ns,T:=T,q:=q },g=g'∨g∈XY X1 Y∨w1.heap.size≤g:=fun g hg=>by
   rcases q_.1 hg with q|q
   ·exact .inr (.inl (s_ _ q))
   ·rcases Yw.aj.1 q with q|q|q|q|q
    ·exact .inr (.inl (k_ _ (Yw.aj.2 (.inl q))))
    ·exact .inr (.inl (k_ _ (Yw.aj.2 (.inr (.inl q)))))
    ·exact .inl q
    ·exact .inr (.inr (hlow g (by rw[show g=mm from q];exact m_)))
    ·exact .inr (.inr (hlow g (f_ _ q)))
  have hs1:Y.s < w1.heap.size:=hyl _ (k_ _ hsx);have hm1:Y.m < w1.heap.size:=hyl _ (k_ _ hmx);have hgm:g'∉mm::skF L ns:=fun hm=>by have:=hlow g' hm;omega
  refine⟨X1,{ Y with P:=P1,g:=g',mm:=mm,L:=L,ns:=ns,T:=T,q:=q },rfl,rfl,⟨h.dm.chg c (fun g hg=>by rw[c_.1 hg];exact⟨hnx _ hsx,h.ng _ hsx⟩),hbx,h.man.chg c (fun hm=>aps (by rw[←c_.1 hm];exact m_)),?_,?_,hl.chg c (fun hm=>hg1 (by rw[c_.1 hm];exact k_ _ hsx)),hmm,hits,ht.step (c.mono fun g hg=>.inl (by rw[c_.1 hg];exact f_ _ (k_ _ hsx))) (fun g hg=>?_),h0.st.step (hc.trans c2 hf) (fun g hg=>?_),⟨?_,?_,?_,hgm⟩,?_⟩,c2,fun g hg=>?_⟩
  ·exact⟨(oq c h.row.row l_ (fun j hj a ha hm=>h.pout j hj a ha (by rw[c_.1 hm];exact hsx))).up c.size,h.row.nc,h.row.cm,h.row.nb,h.row.away⟩
  ·intro j hj a ha hm
   have hp:=h.pout j hj a ha;obtain⟨a',e,q1,_⟩:=h.row.row.cell j hj;rw[ha]at e;injection e with e;subst e
   rcases Yw.aj.1 hm with q|q|q|q|q
   ·exact hp (Yw.aj.2 (.inl q))
   ·exact hp (Yw.aj.2 (.inr (.inl q)))
   ·have q2:a.block=g':=q
    rcases hP with rfl|hP
    ·obtain⟨a',e,q3,_⟩:=h0.row.row.cell j (by
      have l1:=h.row.row.len;have l2:=h0.row.row.len;rw[l2,←l1];exact hj)
     rw[ha]at e;injection e with e;subst e;omega
    ·have:=hP a ha
     omega
   ·have:=hlow _ (show a.block∈mm::skF L ns by rw[show a.block=mm from q];exact m_)
    omega
   ·have:=hlow _ (f_ mm q)
    omega
  ·rcases hf2 g hg with q|q|q
   ·exact .inl (by rw[q];exact m_)
   ·exact .inl (f_ _ q)
   ·exact .inr q
  ·rcases hf2 g hg with q|q|q
   ·exact .inr (by rw[q];exact hg0)
   ·exact hf g q
   ·exact .inr (h_ hc.size q)
  ·intro g hg hm
   have hm2:=hyl g (s_ _ hm)
   rcases hf2 g (k_ _ hg) with q|q|q
   ·exact hg1 (s_ _ (by rw[←q];exact hm))
   ·rcases q_.1 q with q2|q2
    ·rcases Yw.aj.1 hg with q|q|q|q|q
     ·exact hnx _ hsx (by rw[←show g=Y.s from q];exact hm)
     ·exact hnx _ hmx (by rw[←show g=Y.m from q];exact hm)
     ·exact hg1 (s_ _ (by rw[←show g=g' from q];exact hm))
     ·have:=hlow g (by rw[show g=mm from q];exact m_)
      omega
     ·have:=hlow g (f_ _ q)
      omega
    ·exact hnx g q2 hm
   ·omega
  ·intro hm
   rcases g_.1 hm with q|q
   ·exact aps (by rw[show Y.s=Y.m from q];exact m_)
   ·rcases g_.1 q with q|q
    ·exact hg1 (by rw[←show Y.s=g' from q];exact k_ _ hsx)
    ·have:=hlow Y.s q
     omega
  ·intro hm
   rcases g_.1 hm with q|q
   ·exact hg1 (by rw[←show Y.m=g' from q];exact k_ _ hmx)
   ·have:=hlow Y.m q
    omega
  ·intro g hg
   have hb:=h.dm.env.base;have hb0:=h0.dm.env.base
   rcases hf2 g (k_ _ hg) with q|q|q
   ·omega
   ·rcases q_.1 q with q2|q2
    ·exact h.dm.base g q2
    ·exact h.ng g q2
   ·omega
  ·rcases hf2 g hg with q|q|q
   ·exact .inr (by omega)
   ·exact .inl q
   ·exact .inr (h_ hc.size q)
 have hmn:=vz2 w1.drew;have HF:=H_ hfin;have HMN:=H_ hmn;have HB:=H_ h.box;have HN:=H_ (d_ ngt (d_ ngg ngs));have HT3:Hid (BoxO w1.drew 141 gt [.slice T.a T.n T.c]∧BoxO w1.drew 140 gg [.pointer (some ⟨g',0,none⟩)]∧BoxO w1.drew 51 gs [.pointer (some ⟨Y.s,0,none⟩)]):=H_ ⟨bt,bg,bs⟩;clear hfin hmn h bt bg bs ngt ngg ngs h0 hc hf hyl hnx aps apm hsx hmx hgl hl hg0 hg1 hP ht;have hs3:∀(W:World) (j:Nat) (u:Value),(BoxO W 141 gt [.slice T.a T.n T.c]∧BoxO W 140 gg [.pointer (some ⟨g',0,none⟩)]∧BoxO W 51 gs [.pointer (some ⟨Y.s,0,none⟩)])→(BoxO (W.setCell ⟨Y.s,j,none⟩ u) 141 gt [.slice T.a T.n T.c]∧BoxO (W.setCell ⟨Y.s,j,none⟩ u) 140 gg [.pointer (some ⟨g',0,none⟩)]∧BoxO (W.setCell ⟨Y.s,j,none⟩ u) 51 gs [.pointer (some ⟨Y.s,0,none⟩)]):=fun W j u ⟨a,b,c⟩=>by
  have k:Chg [Y.s] W (W.setCell ⟨Y.s,j,none⟩ u):=(Chg.refl _ _).setCell _ (.inl (by simp));exact⟨a.chg k (by simpa using HN.out.1),b.chg k (by simpa using HN.out.2.1),c.chg k (by simpa using HN.out.2.2)⟩
 have HS3:=H_ hs3;clear hs3;go_enter Tryz.func136,Tryz.ntmps136;go_wp2_with fail;refine wp_region_held_drew (S:=fun w'=>BoxO w' 141 gt [.slice T.a T.n T.c]∧BoxO w' 140 gg [.pointer (some ⟨g',0,none⟩)]∧BoxO w' 51 gs [.pointer (some ⟨Y.s,0,none⟩)]) rfl HT3.out (fun hSw=>?_);refine w_v 0 hSw ?_ (k:=kz23);go_simp;refine w_v 1 hSw ?_ (k:=kz23);go_simp;refine w_v 2 hSw ?_ (k:=kz23);go_simp;refine w_v 3 hSw ?_ (k:=kz23);go_simp;refine w_v 4 hSw ?_ (k:=kz23);go_simp;refine w_r 5 fun K hK=>?_;go_simp
 with_reducible refine HMN.out.mono ?_
 rintro e w3 ⟨mm,L,ns,rfl,hmm,hits,hb3,hlow⟩;go_simp;refine hK.out _ _ ⟨hSw.1.below hb3,hSw.2.1.below hb3,hSw.2.2.below hb3⟩ ?_;clear hSw hK K;intro hSw;go_simp;refine w_v 6 hSw ?_ (k:=kz23);go_simp;refine w_v 7 hSw ?_ (k:=kz23);go_simp;refine w_r 8 fun K hK=>?_
 (have hB:=BoxO.below (show BoxO w1.drew _ _ _ from HB.out) hb3;have qq:=hB.cell 4;have z:=hB.free 4;simp only[Yw.cells,gE0,gE1]at qq)
 go_simp;refine hK.out _ _ (HS3.out _ _ _ hSw) ?_;clear hSw hK K;intro hSw;go_simp;refine w_v 9 hSw ?_ (k:=kz23);go_simp;refine w_v 10 hSw ?_ (k:=kz23);go_simp;refine w_r 11 fun K hK=>?_
 (have hB2:=hB.store 4 (.slice T.a T.n T.c);have q2:=hB2.cell 2;have z2:=hB2.free 2;simp only[Yw.cells,List.set,gE0,gE1]at q2)
 go_simp;refine hK.out _ _ (HS3.out _ _ _ hSw) ?_;clear hSw hK K;intro hSw;go_simp;refine w_v 12 hSw ?_ (k:=kz23);go_simp;refine w_v 13 hSw ?_ (k:=kz23);go_simp;refine w_r 14 fun K hK=>?_
 (have hB3:=hB2.store 2 (.pointer (some ⟨g',0,none⟩));have q3:=hB3.cell 3;have z3:=hB3.free 3;simp only[Yw.cells,List.set,gE0,gE1]at q3)
 go_simp;refine hK.out _ _ (HS3.out _ _ _ hSw) ?_;clear hSw hK K;intro hSw;go_simp;refine wpAnyH_done (by kernel_rfl) ?_ _;have hB4:=hB3.store 3 (.pointer (some ⟨mm,0,none⟩));have hcc:Chg [Y.s] w3 (((w3.setCell ⟨Y.s,4,none⟩ (.slice T.a T.n T.c)).setCell ⟨Y.s,2,none⟩ (.pointer (some ⟨g',0,none⟩))).setCell ⟨Y.s,3,none⟩ (.pointer (some ⟨mm,0,none⟩))):=(((Chg.refl [Y.s] w3).setCell _ (.inl (by simp))).setCell _ (.inl (by simp))).setCell _ (.inl (by simp));have hsl:Y.s < w1.heap.size:=BoxO.lt HB.out;have hz:=HF.out mm L ns _ ((Chg.of_below (ak b0_|>.trans hb3) [Y.s]).trans hcc (fun g hg=>.inl hg)) hB4 (hmm.chg hcc (fun g hg hm=>by
  have q1:=hlow g hg;have q2:=c_.1 hm;have q3:w1.drew.heap.size=w1.heap.size:=rfl;omega)) hits hlow
 have HZ:=H_ hz;clear hz hB hB2 hB3 hB4 qq q2 q3 z z2 z3 hcc hmm hits hlow hSw HF HMN HS3 HT3 hb3 hsl;go_wp2;exact bodyPost_end (v:=.tuple #[]) (by simp[results,go_sem]) rfl ⟨rfl,HZ.out⟩
end
section
open Go Go.RowKit Go.Lib Go.Shelf
variable {w w1 w2:World} {X X1 X2:Dw} {S S1 S2:Sd} {Y Y1 Y2:Yw} {V V1 V2:Sv}
theorem yj (S:Sd) (l:List It):(St.write S l).1.load≤S.load+3:=by
 unfold St.write;split
 ·simp
 ·have h1:=Sd.dy1 S (Mn.name Mn.kTab (St.number S))
  simp only;split
  ·omega
  ·split
   ·rw[Sd.av1]
    omega
   ·rw[Sd.bw1,Sd.av1]
    omega
theorem iv2 (S:Sd):(St.fresh S).1.load≤S.load+3:=by
 unfold St.fresh;split
 ·simp
 ·have h1:=Sd.dy1 S (Mn.name Mn.kLog (St.number S))
  simp only;split
  ·omega
  ·rw[Sd.bw1]
   omega
theorem dj2 (d:Sd) (M:Gs) (e:Ed):(Gw.save d M e).1.load=d.load:=by
 unfold Gw.save
 repeat' split
 all_goals (try rfl)
 unfold Gw.put
 repeat' split
 all_goals simp[Sd.bw1,Sd.av1]
theorem uj2 (S:Sd) (V:Sv) (x:Ed) (F:Sv→Sv):(St.turn S V x F).1.load≤S.load:=by
 have h1:=Sd.yx S;unfold St.turn St.saved;simp only
 repeat' split
 all_goals (try simp only[dj2])
 all_goals omega
theorem kx1 {w:World} {base n c size:Nat} {e:TypeId} {A:Option Addr} {xs:List Value} (h:w.ownsRow base e size (.slice A n c) n xs):A=none→n=0∧c=0:=by
 intro ha;subst ha
 rcases h.2 with ⟨h1,h2⟩|⟨g,cap,cur,h1,_⟩
 ·injection h1 with _ q1 q2
  exact⟨q1,q2⟩
 ·injection h1 with q _ _
  cases q
theorem Way.tabs {w0:World} {X0:Dw} {S0:Sd} (h:SvAt w0 X0 S0 Y V) (k:Way w0 X0 Y V w X S) {G:List Nat} (hG:∀g∈G,g∈XY X Y∨w0.heap.size≤g):qx G w fun W=>ex1 W Y.T Y.q V.tabs:=
 h.tabs.step k.c (fun g hg=>by
  rcases hG g hg with q|q
  ·exact k.f g q
  ·exact .inr q)
theorem gx3 {w:World} {e:TypeId} {g:Nat} {xs:List Value} (h:BoxO w e g xs) (hl:xs.length=3):Row w.heap.size w (some ⟨g,0,none⟩) 1 3 xs:=⟨by omega,fun j hj=>⟨_,rfl,h.lt,by
 have h1:=h.cell j;have e0:(⟨g,0,none⟩:Addr).add j=⟨g,j,none⟩:=by
  simp[Addr.add];omega
 rw[e0,h1];exact j_ hj⟩⟩
theorem gj3 {w:World} {e:TypeId} {g:Nat} {xs:List Value} (h:BoxO w e g xs) (hl:xs.length=2):Row w.heap.size w (some ⟨g,0,none⟩) 1 2 xs:=⟨by omega,fun j hj=>⟨_,rfl,h.lt,by
 have h1:=h.cell j;have e0:(⟨g,0,none⟩:Addr).add j=⟨g,j,none⟩:=by
  simp[Addr.add];omega
 rw[e0,h1];exact j_ hj⟩⟩
def FlB (gt gs s:Nat) (AF:Option Addr) (nf:Nat) (add:List (Int×Int)) (T:Sl) (q:List Tq) (ts:List ((Int×Int)×List (List It))) (W:World):Prop:=
 BoxO W 141 gt [.slice T.a T.n T.c]∧BoxO W 51 gs [.pointer (some ⟨s,0,none⟩)]∧Row W.heap.size W AF nf 2 (ax add)∧ex1 W T q ts
structure FlM (w:World) (X:Dw) (Y:Yw) (V:Sv) (gx gt:Nat) (R:Sd×Sv×Nat) (l0:Nat) (wx:World) (S2:Sd) (X2:Dw) (AF:Option Addr) (nf cf:Nat) (add:List (Int×Int)) (T:Sl) (q:List Tq) (ts:List ((Int×Int)×List (List It))):Prop where
 way:Way w X Y V wx X2 S2
 box:BoxO wx 194 gx [.slice none 0 0,.slice AF nf cf,.int .i64 0,.int .u64 0,.int .u64 0,.int .u64 0,.int .u64 0]
 nf1:nf≤1
 fix:qx (gx::XY X2 Y) wx (FlB gt w.heap.size Y.s AF nf add T q ts)
 res:R=St.sw2 S2 V add ts
 load:S2.load≤l0+3
 out:∀a,AF=some a→a.block∉XY X2 Y∧a.block≠gx∧a.block < wx.heap.size
 gxo:gx∉XY X2 Y
 gtx:gt≠gx∧w.heap.size≤gt∧gt < wx.heap.size∧gt∉XY X2 Y
theorem kz8 {P S a oi v} (h:Hv P S a oi v:=by intro w hSw;(obtain⟨q0,q3,q5⟩:=HKC.out _ hSw);go_simp;try (with_reducible rfl)):Hv P S a oi v:=h
theorem pj3 (h:SvAt w X S Y V) (hgd:Tb.good (St.live V)=true) (hfit:∀x∈V.mem,x.fit) (hml:V.mem.length≤400000) (hsl:V.st.length≤2000) (hvf:V.M.v.files.length≤40) (hlog:1≤V.M.v.log∧V.M.v.log≤1073741824) (hc0:V.M.count≤1000000000) (hnl:V.M.name.length≤1000) (hld:S.load≤100000000000):
  Calls Tryz.prog 66 #[.pointer (some ⟨Y.s,0,none⟩)] w (cv1 X Y w (St.flush S V)):=by
 obtain⟨R,hR⟩:=n_ (St.flush S V);rw[←hR];unfold St.flush at hR;have hbA:=b_ w (.cells #[.pointer (some ⟨Y.s,0,none⟩)] 51);have hbs:=BoxO.new w #[.pointer (some ⟨Y.s,0,none⟩)] 51;have hxlt:=h.lt;generalize hW:w.alloc (.cells #[.pointer (some ⟨Y.s,0,none⟩)] 51)=W at *;have k1:Way w X Y V W X S:=(Way.start h).below hbA;have s0:=hbs.cell 0;have c10:=k1.at_.box.cell 10;have c2:=k1.at_.box.cell 2;have c4:=k1.at_.box.cell 4;simp only[Yw.cells,gE0,gE1]at c10 c2 c4 s0;have HX:=H_ hxlt;have HB:=H_ hbs
 cases ho:V.only with
 |true=>
  rw[if_pos ho]at hR;rw[ho]at c10;have HZ:Hid (cv1 X Y w R (.returned (.int .i64 14)) W):=H_ (by rw[hR];exact⟨rfl,k1.upd⟩);clear hR ho h hxlt hbs k1;go_enter Tryz.func66,Tryz.ntmps66;go_wp2;go_ret;exact HZ.out
 |false=>
 rw[if_neg (by simp[ho])]at hR;rw[ho]at c10;have hlc:=sj3 Y.g X.d V.nm V.sz V.ct W k1.at_.log;have HLC:=H_ hlc;clear hlc
 by_cases hct:V.ct=0
 ·rw[if_pos hct]at hR
  have e0:((V.ct:Int)==0)=true:=by simp[hct]
  have HZ:Hid (cv1 X Y w R (.returned (.int .i64 0)) W):=H_ (by rw[hR];exact⟨rfl,k1.upd⟩);clear hR ho h hxlt hbs k1 hct;go_enter Tryz.func66,Tryz.ntmps66;go_wp2_with fail
  with_reducible refine HLC.out.mono ?_
  rintro e w2 ⟨rfl,rfl⟩;go_wp2;go_ret;exact HZ.out
 rw[if_neg hct]at hR;have e0:((V.ct:Int)==0)=false:=by simp;omega
 have htl:=h.tlen
 by_cases h30:30≤Y.T.n
 ·rw[if_pos (by omega)]at hR
  have e1:((30:Int)≤(Y.T.n:Int))=True:=eq_true (by omega);have HZ:Hid (cv1 X Y w R (.returned (.int .i64 65)) W):=H_ (by rw[hR];exact⟨rfl,k1.upd⟩);clear hR ho h hxlt hbs k1 hct htl h30;go_enter Tryz.func66,Tryz.ntmps66;go_wp2_with fail
  with_reducible refine HLC.out.mono ?_
  rintro e w2 ⟨rfl,rfl⟩;go_wp2;go_ret;exact HZ.out
 rw[if_neg (by omega)]at hR;have e1:((30:Int)≤(Y.T.n:Int))=False:=eq_false (by omega);obtain⟨hq,hrow,hTc,hTm,hTn,hTb⟩:=h.tabs.now;have hslt:Y.s < w.heap.size:=h.box.lt;have hgsl:w.heap.size < W.heap.size:=hbs.lt;have hbE:=b_ W (.cells #[.slice none 0 0,.slice none 0 0,.int .i64 0,.int .u64 0,.int .u64 0,.int .u64 0,.int .u64 0] 194);have hbx:=BoxO.new W #[.slice none 0 0,.slice none 0 0,.int .i64 0,.int .u64 0,.int .u64 0,.int .u64 0,.int .u64 0] 194;have hbs2:=hbs.below hbE;have k2:=k1.below hbE;have hgx:W.heap.size < (W.alloc (.cells #[.slice none 0 0,.slice none 0 0,.int .i64 0,.int .u64 0,.int .u64 0,.int .u64 0,.int .u64 0] 194)).heap.size:=hbx.lt;have t0:=hbs2.cell 0;have t4:=k2.at_.box.cell 4;simp only[Yw.cells,gE0,gE1]at t0 t4;have hbw2:Below w.heap.size w (W.alloc (.cells #[.slice none 0 0,.slice none 0 0,.int .i64 0,.int .u64 0,.int .u64 0,.int .u64 0,.int .u64 0] 194)):=hbA.trans (hbE.mono hbA.size);have hcl:=dx2 Y.T.a Y.T.n Y.T.c Y.q (W.alloc (.cells #[.slice none 0 0,.slice none 0 0,.int .i64 0,.int .u64 0,.int .u64 0,.int .u64 0,.int .u64 0] 194)) (by omega) hTn ((hrow.below hbw2).up hbw2.size);have HCL:=H_ hcl;have HR:=H_ hR;have HH:=H_ h;have HK2:=H_ k2;have HQ:=H_ hq;have HBX:=H_ hbx;have HBS:=H_ hbs2;have HW2:=H_ (d_ hbw2 (d_ hslt (d_ hgsl hgx)));have H30:=H_ h30;clear hR h ho hct htl hxlt hbs hcl hrow hTc hTm hTb hTn k1 k2 hq hbx hbs2 hbw2 hslt hgsl hgx hbE h30 HB;go_enter Tryz.func66,Tryz.ntmps66;go_wp2_with fail
 with_reducible refine HLC.out.mono ?_
 rintro e w2 ⟨rfl,hw2⟩;obtain rfl:=hw2.symm;go_wp2_with fail;clear t0 t4;generalize hW2:W.alloc (.cells #[.slice none 0 0,.slice none 0 0,.int .i64 0,.int .u64 0,.int .u64 0,.int .u64 0,.int .u64 0] 194)=W2 at *
 with_reducible refine HCL.out.mono ?_
 rintro e w3 ⟨A3,c3,rfl,ho3,hb3⟩;clear hW hW2 s0 c10 c2 c4 HCL HLC;have hbA3:=b_ w3 (.cells #[.slice A3 Y.T.n c3] 141);have hbt:=BoxO.new w3 #[.slice A3 Y.T.n c3] 141;have hb23:Below W2.heap.size W2 (w3.alloc (.cells #[.slice A3 Y.T.n c3] 141)):=az hb3 hbA3;have ho4:=own_below ho3 hbA3;have HA4:Hid (∀g,(Value.slice A3 Y.T.n c3).ownBlock=some g→W2.heap.size≤g∧g < w3.heap.size):=H_ (fun g e=>ho3.lt g e);have hgt:w3.heap.size < (w3.alloc (.cells #[.slice A3 Y.T.n c3] 141)).heap.size:=hbt.lt;have hw23:=hb3.size;generalize hW4:w3.alloc (.cells #[.slice A3 Y.T.n c3] 141)=W4 at *;have k4:=HK2.out.below hb23;have hbs4:=HBS.out.below hb23;have hbx4:=HBX.out.below hb23;have t0:=hbs4.c0;have hmi:∀W',Below W4.heap.size W4 W'→Calls Tryz.prog 132 #[.pointer (some ⟨Y.mm,0,none⟩)] W' (mv1 W' V.mem):=fun W' hb=>by
  have h5:=(k4.below hb).at_;have:=cz3 h5.mem (by have q1:=lx2 h5.mem.sk;rw[h5.its]at q1;omega);rw[h5.its]at this;exact this
 have hhs:∀W',Below W4.heap.size W4 W'→Calls Tryz.prog 105 #[.slice Y.A.a Y.A.n Y.A.c] W' fun e w'=>∃g b,e=.returned (.func (.func 194) #[] #[.pointer (some ⟨g,0,none⟩)])∧HsAt w' g b V.st∧Below W'.heap.size W' w':=fun W' hb=>by
  have h5:=(k4.below hb).at_;exact cq5 Y.A.a Y.A.n Y.A.c V.st W' (by rw[h5.alen];omega) h5.st.now.row
 have hkc:∀W',Below W4.heap.size W4 W'→W'.cell? ⟨w.heap.size,0,none⟩=some (.pointer (some ⟨Y.s,0,none⟩))∧W'.cell? ⟨Y.s,3,none⟩=some (.pointer (some ⟨Y.mm,0,none⟩))∧W'.cell? ⟨Y.s,5,none⟩=some (.slice Y.A.a Y.A.n Y.A.c):=fun W' hb=>by
  have h5:=(k4.below hb).at_.box;have q3:=h5.cell 3;have q5:=h5.cell 5;simp only[Yw.cells,gE0,gE1]at q3 q5;exact⟨(hbs4.below hb).cell 0,q3,q5⟩
 have hkp:∀(A5:Option Addr) (k5 c5 g6 b6:Nat) (W':World),k5≤1000000→Row W'.heap.size W' A5 k5 5 (itc V.mem)→HsAt W' g6 b6 V.st→Calls Tryz.prog 104 #[.slice A5 k5 c5,.func (.func 194) #[] #[.pointer (some ⟨g6,0,none⟩)]] W' (mv1 W' (St.live V)):=fun A5 k5 c5 g6 b6 W' hk hr hh=>keep_any 194 (fun _ _=>rfl) #[.pointer (some ⟨g6,0,none⟩)] (fun x=>decide (x∈V.st)) A5 k5 c5 V.mem W' hk hr (fun x w7 hb7=>px4 x g6 b6 V.st w7 (hh.below hb7));have HKP:=H_ hkp;have HMI:=H_ hmi;have HHS:=H_ hhs;have HKC:=H_ hkc;have HK4:=H_ k4;have HBS4:=H_ hbs4;have HBX4:=H_ hbx4;have HO4:=H_ ho4;have HBT:=H_ hbt;have HN4:=H_ (d_ hgt hw23);clear hmi hhs hkc hkp k4 hbs4 hbx4 ho4 hbt hgt hw23 hbA3 ho3 hb3;go_wp2_with fail;clear hW4 t0;refine wp_region_held_drew (S:=fun w'=>Below W4.heap.size W4 w') rfl (ak b0_) (fun hSw=>?_);refine w_v 0 hSw ?_ (k:=kz8);go_simp;refine w_v 1 hSw ?_ (k:=kz8);go_simp;refine w_v 2 hSw ?_ (k:=kz8);go_simp;refine w_v 3 hSw ?_ (k:=kz8);go_simp;refine w_v 5 hSw ?_ (k:=kz8);go_simp;refine w_v 6 hSw ?_ (k:=kz8);go_simp;refine w_v 7 hSw ?_ (k:=kz8);go_simp;refine w_v 8 hSw ?_ (k:=kz8);go_simp;refine w_r 4 fun K hK=>?_;go_simp
 with_reducible refine(HMI.out _ hSw).mono ?_
 rintro e w5 ⟨A5,k5,c5,rfl,hk5,hi5,hb5⟩;replace hk5:=H_ hk5;go_simp;refine hK.out _ _ (az hSw hb5) ?_;clear hSw hK K;intro hSw;go_simp;refine w_r 9 fun K hK=>?_;go_simp
 with_reducible refine(HHS.out _ hSw).mono ?_
 rintro e w6 ⟨g6,b6,rfl,hh6,hb6⟩;go_simp;refine hK.out _ _ (az hSw hb6) ?_;clear hSw hK K;intro hSw;go_simp;refine w_r 10 fun K hK=>?_;go_simp
 with_reducible refine(HKP.out A5 k5 c5 g6 b6 w6 (by have:=hk5.out;omega) ((hi5.row.below hb6).up hb6.size) hh6).mono ?_
 rintro e w7 ⟨A7,k7,c7,rfl,hk7,hi7,hb7⟩;replace hk7:=H_ hk7;go_simp;refine hK.out _ _ (az hSw hb7) ?_;clear hSw hK K;intro hSw;go_simp;refine w_v 11 hSw ?_ (k:=kz8);go_simp;refine wpAnyH_done (by kernel_rfl) ?_ _;have kw7:=HK4.out.below hSw;have hbs7:=HBS4.out.below hSw;have hbx7:=HBX4.out.below hSw;have hbt7:=HBT.out.below hSw;have ho7:=own_below HO4.out hSw;have hsz:W2.heap.size≤w3.heap.size∧w3.heap.size < W4.heap.size∧W4.heap.size≤w7.heap.size:=⟨HN4.out.2,HN4.out.1,hSw.size⟩;have hxy:∀g∈XY X Y,g < w.heap.size:=HX.out;have hws:=HW2.out;have FX7:qx (W.heap.size::XY X Y) w7 (FlB w3.heap.size w.heap.size Y.s none 0 [] ⟨A3,Y.T.n,c3⟩ Y.q V.tabs):=fun W' c'=>by
  have n1:w3.heap.size∉W.heap.size::XY X Y:=fun hm=>by
   rcases g_.1 hm with q|q
   ·omega
   ·have:=hxy _ q
    omega
  have n2:w.heap.size∉W.heap.size::XY X Y:=fun hm=>by
   rcases g_.1 hm with q|q
   ·omega
   ·have:=hxy _ q
    omega
  obtain⟨P',c0,q1,q2,q3,q4⟩:=dw ho7;injection q1 with q1 _ qc;subst q1 qc;have hft:=(Way.tabs HH.out kw7 (G:=W.heap.size::XY X Y) (fun g hg=>by
   rcases g_.1 hg with q|q
   ·exact .inr (by omega)
   ·exact .inl q)) W' c'
  exact⟨hbt7.chg c' n1,hbs7.chg c' n2,Row.nil_,HQ.out,(oq c' (Row.own ho7) l_ (fun j _ a ha hm=>by
   have z1:=(q4 a ha).1
   rcases g_.1 hm with q|q
   ·omega
   ·have:=hxy _ q
    omega)).up c'.size,q2,q3,kx1 ho7,hft.2.2.2.2.2⟩
 have HK7:=H_ kw7;have HO7:=H_ ho7;have HFX7:=H_ FX7;have HBX7:=H_ hbx7;have HI7:=H_ hi7;have HSZ:=H_ (d_ hsz hws);have HA3:Hid (∀g,(Value.slice A3 Y.T.n c3).ownBlock=some g→W2.heap.size≤g∧g < w3.heap.size):=HA4;have HHK:=H_ hk7;clear kw7 ho7 FX7 hbx7 hbs7 hbt7 hi7 hSw hsz hxy hws hb7 hh6 hi5 hb5 hb6 HKP HMI HHS HKC HK4 HBS4 HBX4 HO4 HBT HN4 hk7 hb23 hbA;go_upto_if 50 with (fail)
 go_cut [] (fun wx=>∃S2 X2 AF nf cf add T q ts,FlM w X Y V W.heap.size w3.heap.size R S.load wx S2 X2 AF nf cf add T q ts)
 case first=>
  have hk7:=HHK.out.out
  by_cases hz:k7=0
  ·have e2:(0 < k7)=False:=eq_false (by omega)
   have hlv:St.live V=[]:=U_.1 (by omega);have hR:=HR.out;rw[if_pos hlv]at hR;have HM:Hid (FlM w X Y V W.heap.size w3.heap.size R S.load w7 S X none 0 0 [] ⟨A3,Y.T.n,c3⟩ Y.q V.tabs):=H_ ⟨HK7.out,HBX7.out,by omega,HFX7.out,hR,by omega,(fun a ha=>by cases ha),(fun hmm=>by
    have:=HSZ.out;have:=HX.out _ hmm;omega),by
    have:=HSZ.out;refine⟨by omega,by omega,by omega,fun hm=>?_⟩;have:=HX.out _ hm;omega⟩
   clear hR hlv hk7 e2;subst hz;go_wp2_with fail
   go_meet
   case rel=>exact⟨_,_,_,_,_,_,_,_,_,HM.out⟩
  ·have hkp:0 < k7:=by omega
   have t0:=HFX7.out.now.2.1.c0;have hlv:St.live V≠[]:=fun e=>hz (by rw[hk7,e];rfl);have hR:=HR.out;rw[if_neg hlv]at hR;have hll:(St.live V).length≤2000:=by
    have q:=hgd;unfold Tb.good at q;simp only[K_,decide_eq_true_eq]at q;exact q.1.1
   have hwr:=gz2 HK7.out.at_ A7 k7 c7 (St.live V) (by omega) HI7.out.nc HI7.out.row (fun x hx=>hfit x ((ab_.1 hx).1)) hgd 0 (by omega);have hnb:=oy1 S;obtain⟨n,hn⟩:=n_ (St.number S);rw[←hn]at hwr hR hnb;obtain⟨a,ha⟩:=n_ (St.write S (St.live V));have hal:a.1.load≤S.load+3:=by rw[ha];exact yj S (St.live V)
   rw[←ha]at hwr hR;obtain⟨S8,er8⟩:=a;unfold xy2 at hwr;simp only at hwr hR hal;have HWR:=H_ hwr;have HR8:=H_ hR;clear hwr hR ha hn hll hlv hz hk7;go_wp2_with fail
   with_reducible refine HWR.out.mono ?_
   rintro e w8 ⟨va,vb,vp,X8,rfl,e8,hs8,hc8,hf8,hok⟩;have k8:Way w X Y V w8 X8 S8:=⟨hs8,e8.trans HK7.out.d,HK7.out.c.trans hc8 HK7.out.f,fun g hg=>by
    rcases hf8 g hg with q|q
    ·exact .inl q
    ·exact .inr (h_ HK7.out.c.size q)⟩
   by_cases h8:er8=0
   ·subst h8
    obtain⟨f,hva,hvb,hvp,hft⟩:=hok rfl;have hvb2:=hvb.symm;have HFT:=H_ hft;clear hok hft hvb;subst hva hvp hvb2;have hR:=HR8.out;rw[if_neg (by simp)]at hR;have FX8:=HFX7.out.step (G:=W.heap.size::XY X8 Y) (c:=hc8.mono fun g hg=>.inl (f_ _ hg)) (fun g hg=>by
     rcases g_.1 hg with q|q
     ·exact .inl (by rw[q];exact m_)
     ·exact(hf8 g q).imp (f_ _) id)
    have hz:=HSZ.out;have hnx:∀g,w.heap.size≤g→g < w7.heap.size→g∉XY X Y∧g∉XY X8 Y:=fun g h1 h2=>by
     have z1:g∉XY X Y:=fun hm=>by
      have:=HX.out g hm;omega
     refine⟨z1,fun hm=>?_⟩
     rcases hf8 g hm with q|q
     ·exact z1 q
     ·omega
    have hbx8:=HBX7.out.chg hc8 (hnx _ (by omega) (by omega)).1;have ho8:=jv HO7.out hc8 (fun g e hm=>by
     have z1:=(HO7.out.lt g e).1;have:=HX.out g hm;omega)
    have hbA9:=b_ w8 (.cells #[.int .i64 0,.int .i64 n,.pointer (some ⟨f,0,none⟩)] 173);have hh9:=BoxO.new w8 #[.int .i64 0,.int .i64 n,.pointer (some ⟨f,0,none⟩)] 173;have hbA10:=(Below.refl (w8.alloc (.cells #[.int .i64 0,.int .i64 n,.pointer (some ⟨f,0,none⟩)] 173)).heap.size (w8.alloc (.cells #[.int .i64 0,.int .i64 n,.pointer (some ⟨f,0,none⟩)] 173))).alloc l_ (.cells #[.int .i64 0,.int .i64 n] 170);have ha10:=BoxO.new (w8.alloc (.cells #[.int .i64 0,.int .i64 n,.pointer (some ⟨f,0,none⟩)] 173)) #[.int .i64 0,.int .i64 n] 170;have hb810:=az hbA9 hbA10;have hbx10:=hbx8.below hb810;have hh10:=hh9.below hbA10;have bt10:=FX8.now.1.below hb810;have cx:Chg [W.heap.size] ((w8.alloc (.cells #[.int .i64 0,.int .i64 n,.pointer (some ⟨f,0,none⟩)] 173)).alloc (.cells #[.int .i64 0,.int .i64 n] 170)) (((w8.alloc (.cells #[.int .i64 0,.int .i64 n,.pointer (some ⟨f,0,none⟩)] 173)).alloc (.cells #[.int .i64 0,.int .i64 n] 170)).setCell ⟨W.heap.size,1,none⟩ (.slice (some ⟨w8.heap.size+1,0,none⟩) 1 1)):=(Chg.refl _ _).setCell _ (.inl (by simp));have hne8:w8.heap.size≠W.heap.size:=by
     have:=hc8.size;omega
    have hh11:=hh10.chg cx (by simp;omega);have ha11:=ha10.chg cx (by
     have:=hc8.size;simp;omega)
    have bt11:=bt10.chg cx (by simp;omega);have hbx11:=hbx10.store 1 (.slice (some ⟨w8.heap.size+1,0,none⟩) 1 1);have hbA12:=(Below.refl (((w8.alloc (.cells #[.int .i64 0,.int .i64 n,.pointer (some ⟨f,0,none⟩)] 173)).alloc (.cells #[.int .i64 0,.int .i64 n] 170)).setCell ⟨W.heap.size,1,none⟩ (.slice (some ⟨w8.heap.size+1,0,none⟩) 1 1)).heap.size (((w8.alloc (.cells #[.int .i64 0,.int .i64 n,.pointer (some ⟨f,0,none⟩)] 173)).alloc (.cells #[.int .i64 0,.int .i64 n] 170)).setCell ⟨W.heap.size,1,none⟩ (.slice (some ⟨w8.heap.size+1,0,none⟩) 1 1))).alloc l_ (.cells #[.int .i64 0,.int .i64 n,.pointer (some ⟨f,0,none⟩)] 173);have hr12:=gx3 (BoxO.new (((w8.alloc (.cells #[.int .i64 0,.int .i64 n,.pointer (some ⟨f,0,none⟩)] 173)).alloc (.cells #[.int .i64 0,.int .i64 n] 170)).setCell ⟨W.heap.size,1,none⟩ (.slice (some ⟨w8.heap.size+1,0,none⟩) 1 1)) #[.int .i64 0,.int .i64 n,.pointer (some ⟨f,0,none⟩)] 173) rfl;rw[show (((w8.alloc (.cells #[.int .i64 0,.int .i64 n,.pointer (some ⟨f,0,none⟩)] 173)).alloc (.cells #[.int .i64 0,.int .i64 n] 170)).setCell ⟨W.heap.size,1,none⟩ (.slice (some ⟨w8.heap.size+1,0,none⟩) 1 1)).heap.size=w8.heap.size+1+1 from by simp]at hr12;have hA8:Chg [W.heap.size] w8 ((((w8.alloc (.cells #[.int .i64 0,.int .i64 n,.pointer (some ⟨f,0,none⟩)] 173)).alloc (.cells #[.int .i64 0,.int .i64 n] 170)).setCell ⟨W.heap.size,1,none⟩ (.slice (some ⟨w8.heap.size+1,0,none⟩) 1 1)).alloc (.cells #[.int .i64 0,.int .i64 n,.pointer (some ⟨f,0,none⟩)] 173)):=((Chg.of_below hb810 [W.heap.size]).trans cx (fun g hg=>.inl hg)).trans (Chg.of_below hbA12 []) (fun g hg=>by cases hg);have ho12:=jv ho8 hA8 (fun g e hm=>by
     have z1:=(HO7.out.lt g e).1;have z2:=c_.1 hm;omega)
    have hown:∀g,(Value.slice A3 Y.T.n c3).ownBlock=some g→W2.heap.size≤g∧g < w7.heap.size:=fun g e=>HO7.out.lt g e;have bt12:=bt11.below hbA12;have hbx12:=hbx11.below hbA12;have ha12:=ha11.below hbA12;have y1:=hbx10.c1;have z1:=hbx10.free 1;have u0:=hh11.c0;have u1:=hh11.c1;have u2:=hh11.c2;have v0:=bt11.c0;obtain⟨i0,hi0,hz0,hz1,hz2⟩:=info_parts ay2;have hsz12:w8.heap.size < ((((w8.alloc (.cells #[.int .i64 0,.int .i64 n,.pointer (some ⟨f,0,none⟩)] 173)).alloc (.cells #[.int .i64 0,.int .i64 n] 170)).setCell ⟨W.heap.size,1,none⟩ (.slice (some ⟨w8.heap.size+1,0,none⟩) 1 1)).alloc (.cells #[.int .i64 0,.int .i64 n,.pointer (some ⟨f,0,none⟩)] 173)).heap.size:=hh11.below hbA12|>.lt
    have hw78:=hc8.size;have HR9:=H_ hR;clear hR;go_wp2_with (at_builtin;refine iy ?_);refine gz (aw1 rfl (.tmp 64) (.tmp 66) _ rfl W2.heap.size 173 i0 _ 3 24 Tryz.underlying141 hi0 hz0 hz1 hz2 rfl (by omega) ((((w8.alloc (.cells #[.int .i64 0,.int .i64 n,.pointer (some ⟨f,0,none⟩)] 173)).alloc (.cells #[.int .i64 0,.int .i64 n] 170)).setCell ⟨W.heap.size,1,none⟩ (.slice (some ⟨w8.heap.size+1,0,none⟩) 1 1)).alloc (.cells #[.int .i64 0,.int .i64 n,.pointer (some ⟨f,0,none⟩)] 173)) b0_ (by omega) (.slice A3 Y.T.n c3) Y.T.n (hcells Y.q) rfl ho12 ((((w8.alloc (.cells #[.int .i64 0,.int .i64 n,.pointer (some ⟨f,0,none⟩)] 173)).alloc (.cells #[.int .i64 0,.int .i64 n] 170)).setCell ⟨W.heap.size,1,none⟩ (.slice (some ⟨w8.heap.size+1,0,none⟩) 1 1)).alloc (.cells #[.int .i64 0,.int .i64 n,.pointer (some ⟨f,0,none⟩)] 173)).heap.size _ 1 1 (by omega) [.int .i64 0,.int .i64 n,.pointer (some ⟨f,0,none⟩)] rfl hr12 (fun v hv=>rj1 [(((0,n),Tb.rows (St.live V)),f)] v (by simpa [hcells] using hv)) (Y.T.n+1) (hcells (Y.q++[(((0,n),Tb.rows (St.live V)),f)])) rfl (by simp[hcells]) (by have:=H30.out;unfold maxLen;omega) (by have:=H30.out;omega) ?_);intro A4 c4 w13 p1 p2 p3 p4 p5 p6;have hO:∀g∈(Value.slice A3 Y.T.n c3).ownBlock.toList,W2.heap.size≤g∧g < w3.heap.size:=fun g hg=>HA3.out g (a0_.1 hg);have hcA:Chg (Value.slice A3 Y.T.n c3).ownBlock.toList ((((w8.alloc (.cells #[.int .i64 0,.int .i64 n,.pointer (some ⟨f,0,none⟩)] 173)).alloc (.cells #[.int .i64 0,.int .i64 n] 170)).setCell ⟨W.heap.size,1,none⟩ (.slice (some ⟨w8.heap.size+1,0,none⟩) 1 1)).alloc (.cells #[.int .i64 0,.int .i64 n,.pointer (some ⟨f,0,none⟩)] 173)) w13:=Chg.pz p3 (fun b e=>by rw[e];exact c_.2 rfl);have hzz:=HSZ.out;have bt13:=bt12.chg hcA (fun hm=>by
     have:=hO _ hm;omega)
    have ct:Chg [w3.heap.size] w13 (w13.setCell ⟨w3.heap.size,0,none⟩ (.slice A4 (Y.T.n+1) c4)):=(Chg.refl _ _).setCell _ (.inl (by simp));have hGall:∀g∈[W.heap.size,w3.heap.size] ++(Value.slice A3 Y.T.n c3).ownBlock.toList,w.heap.size≤g∧g < w7.heap.size:=fun g hg=>by
     rcases q_.1 hg with q|q
     ·simp only[g_,ca_,or_false]at q
      omega
     ·have:=hO g q
      omega
    have c14:Chg ([W.heap.size,w3.heap.size] ++(Value.slice A3 Y.T.n c3).ownBlock.toList) w8 (w13.setCell ⟨w3.heap.size,0,none⟩ (.slice A4 (Y.T.n+1) c4)):=
     (((hA8.mono (G:=[W.heap.size,w3.heap.size] ++(Value.slice A3 Y.T.n c3).ownBlock.toList) fun g hg=>.inl (by rw[c_.1 hg];simp)).trans hcA (fun g hg=>.inl (k_ _ hg)))).trans ct (fun g hg=>.inl (by rw[c_.1 hg];simp))
    have k14:Way w X Y V (w13.setCell ⟨w3.heap.size,0,none⟩ (.slice A4 (Y.T.n+1) c4)) X8 S8:=Way.scr HH.out k8 (fun g hg=>⟨(hGall g hg).1,(hnx g (hGall g hg).1 (hGall g hg).2).2⟩) c14;have hbx14:=(hbx12.chg hcA (fun hm=>by
     have:=hO _ hm;omega)).chg ct (fun hm=>by
     have:=c_.1 hm;omega)
    have bt14:=bt13.store 0 (.slice A4 (Y.T.n+1) c4);have e9:(w8.alloc (.cells #[.int .i64 0,.int .i64 n,.pointer (some ⟨f,0,none⟩)] 173)).heap.size=w8.heap.size+1:=by simp
    have e12:((((w8.alloc (.cells #[.int .i64 0,.int .i64 n,.pointer (some ⟨f,0,none⟩)] 173)).alloc (.cells #[.int .i64 0,.int .i64 n] 170)).setCell ⟨W.heap.size,1,none⟩ (.slice (some ⟨w8.heap.size+1,0,none⟩) 1 1)).alloc (.cells #[.int .i64 0,.int .i64 n,.pointer (some ⟨f,0,none⟩)] 173)).heap.size=w8.heap.size+3:=by simp
    rw[e9]at ha12;have ha14:=(ha12.chg hcA (fun hm=>by
     have:=hO _ hm;omega)).chg ct (fun hm=>by
     have:=c_.1 hm;omega)
    have hlt8:=k8.at_.lt;have hA4:∀a,A4=some a→(W2.heap.size≤a.block∧a.block < w3.heap.size)∨a.block=w8.heap.size+3:=fun a ha=>by
     obtain⟨P',c0,q1,q2,q3,q4⟩:=dw p1;injection q1 with q1 _ qc;subst q1;obtain⟨_,_,s1,s2⟩:=q4 a ha;subst ha;obtain⟨ab,ao,as_⟩:=a;simp only at s1 s2;subst s1 s2
     rcases p6 with p6|p6
     ·exact .inl (HA3.out ab (by rw[←p6];simp[Value.ownBlock]))
     ·right
      rw[e12]at p6;simpa [Value.ownBlock] using p6
    have hgs14:=FX8.now.2.1.chg c14 (fun hm=>by
     rcases q_.1 hm with q|q
     ·simp only[g_,ca_,or_false]at q
      omega
     ·have:=hO _ q
      omega)
    have hX8:∀g,w.heap.size≤g→g < w7.heap.size→g≠W.heap.size→g∉W.heap.size::XY X8 Y:=fun g h1 h2 h3 hm=>by
     rcases g_.1 hm with q|q
     ·exact h3 q
     ·exact(hnx g h1 h2).2 q
    have hXn:∀g,w8.heap.size≤g→g∉W.heap.size::XY X8 Y:=fun g h1 hm=>by
     rcases g_.1 hm with q|q
     ·omega
     ·have:=hlt8 g q
      omega
    have hM:FlM w X Y V W.heap.size w3.heap.size R S.load (w13.setCell ⟨w3.heap.size,0,none⟩ (.slice A4 (Y.T.n+1) c4)) S8 X8 (some ⟨w8.heap.size+1,0,none⟩) 1 1 [(0,n)] ⟨A4,Y.T.n+1,c4⟩ (Y.q++[(((0,n),Tb.rows (St.live V)),f)]) (V.tabs++[((0,n),Tb.rows (St.live V))]):=by
     refine⟨k14,hbx14,x_ _,fun W' c'=>⟨bt14.chg c' (hX8 _ (by omega) (by omega) (by omega)),hgs14.chg c' (hX8 _ (by omega) (by omega) (by omega)),gj3 (ha14.chg c' (hXn _ (by omega))) rfl,by simp[HQ.out],?_,p4,p5,kx1 p1,fun p hp=>?_⟩,HR9.out,hal,fun a ha=>?_,(hnx _ (by omega) (by omega)).2,?_⟩
     ·refine(oq c' ((oq ct (Row.own p1) l_ (fun j _ a ha hm=>?_)).up ct.size) l_ (fun j _ a ha=>?_)).up c'.size
      ·have q1:=c_.1 hm
       rcases hA4 a ha with q|q<;>omega
      ·rcases hA4 a ha with q|q
       ·exact hX8 _ (by omega) (by omega) (by omega)
       ·exact hXn _ (by omega)
     ·rcases q_.1 hp with q|q
      ·exact(Way.tabs HH.out k14 (G:=W.heap.size::XY X8 Y) (fun g hg=>by
        rcases g_.1 hg with q|q
        ·exact .inr (by omega)
        ·exact .inl q) W' c').2.2.2.2.2 p q
      ·rw[c_.1 q]
       refine HFT.out ([W.heap.size,w3.heap.size] ++(Value.slice A3 Y.T.n c3).ownBlock.toList++XY X8 Y) (fun g hg=>?_) W' ((c14.mono fun g hg=>.inl (s_ _ hg)).trans c' (fun g hg=>?_))
       ·rcases q_.1 hg with q|q
        ·exact .inr (hGall g q).2
        ·exact .inl q
       ·rcases g_.1 hg with q|q
        ·exact .inl (by rw[q];simp)
        ·exact .inl (k_ _ q)
     ·injection ha with ha
      subst ha;have q1:=hXn (w8.heap.size+1) (by omega);exact⟨fun hm=>q1 (f_ _ hm),fun e=>q1 (by rw[show w8.heap.size+1=W.heap.size from e];exact m_),ha14.lt⟩
     ·exact⟨by omega,by omega,bt14.lt,fun hm=>(hnx _ (by omega) (by omega)).2 hm⟩
    have HM:=H_ hM;have v1:=bt13.c0;have v2:=bt13.free 0;clear hM hA4 hgs14 hX8 hXn ha14 bt14 hbx14 k14 c14 hGall ct bt13 hcA hO hlt8 p1 p2 p3 p4 p5 p6 e9 e12 hzz;go_wp2_with fail
    go_meet
    case rel=>exact⟨_,_,_,_,_,_,_,_,_,HM.out⟩
   ·have e3:((er8:Int)==0)=false:=by simp;omega
    have hR:=HR8.out;rw[if_pos h8]at hR;have HZ:Hid (∀w',Below w8.heap.size w8 w'→cv1 X Y w R (.returned (.int .i64 (er8:Int))) w'):=H_ fun w' hb=>by
     rw[hR];exact⟨rfl,(k8.below hb).upd⟩
    have hbz:=b_ w8 (.cells #[.int .i64 va,.int .i64 vb,.pointer vp] 173);have HY:=H_ (HZ.out _ hbz);clear hR h8 hok k8 hs8 hc8 hf8 e8 hbz HZ;go_wp2;go_ret;exact HY.out
   all_goals omega
 case rest=>
  obtain⟨S2,X2,AF,nf,cf,add,T,q,ts,hm⟩:=hcut;have hlr:=hm.load;have hnf:=hm.nf1;have hfl:=iv2 S2;have t0:=hm.fix.now.2.1.c0;have hfr:=oj3 hm.way.at_ (by omega);have hnb:=oy1 S2;have hR:=hm.res;unfold St.sw2 at hR;obtain⟨n,hn⟩:=n_ (St.number S2);rw[←hn]at hfr hR hnb;obtain⟨a,ha⟩:=n_ (St.fresh S2);rw[←ha]at hfr hR hfl;obtain⟨S5,er5⟩:=a;unfold vw4 at hfr;simp only at hfr hR hfl;have HFR:=H_ hfr;have HR2:=H_ hR;have HM:=H_ hm;have hzz:=HSZ.out;clear hfr hR ha hn hm HHK HI7 HFX7 HBX7 HO7 HK7 HR HA3;go_wp2_with fail
  with_reducible refine HFR.out.mono ?_
  rintro e w5 ⟨p5,n5,X5,rfl,e5,hs5,hc5,hf5,hok⟩;have hm:=HM.out;have k5:Way w X Y V w5 X5 S5:=⟨hs5,e5.trans hm.way.d,hm.way.c.trans hc5 hm.way.f,fun g hg=>by
   rcases hf5 g hg with q|q
   ·exact hm.way.f g q
   ·exact .inr (h_ hm.way.c.size q)⟩
  have hbA5:=b_ w5 (.cells #[.pointer p5] 140);have hbg:=BoxO.new w5 #[.pointer p5] 140
  by_cases h5:er5=0
  ·subst h5
   obtain⟨g,hp5,hn5,hlg,hg0,hg1⟩:=hok rfl;have hn52:=hn5.symm;clear hok hn5;subst hp5 hn52;have hR:=HR2.out;rw[if_neg (by simp)]at hR;have hgxw:W.heap.size < wc.heap.size:=hm.box.lt;have hgx2:W.heap.size∉XY X2 Y:=hm.gxo;have hgx5:W.heap.size∉XY X5 Y:=fun hmm=>by
    rcases hf5 _ hmm with q|q
    ·exact hgx2 q
    ·omega
   have hx5lt:=k5.at_.lt;have hbx6:=(hm.box.chg hc5 hgx2).below hbA5;have cx:Chg [W.heap.size] (w5.alloc (.cells #[.pointer (some ⟨g,0,none⟩)] 140)) ((w5.alloc (.cells #[.pointer (some ⟨g,0,none⟩)] 140)).setCell ⟨W.heap.size,2,none⟩ (.int .i64 n)):=(Chg.refl _ _).setCell _ (.inl (by simp));have hbx7:=hbx6.store 2 (.int .i64 n);have k7:Way w X Y V ((w5.alloc (.cells #[.pointer (some ⟨g,0,none⟩)] 140)).setCell ⟨W.heap.size,2,none⟩ (.int .i64 n)) X5 S5:=Way.scr HH.out (k5.below hbA5) (G:=[W.heap.size]) (fun g hg=>by rw[c_.1 hg];exact⟨by omega,hgx5⟩) cx;have hgl5:=hlg.lt;have hw5:wc.heap.size≤w5.heap.size:=hc5.size;have hbg7:=hbg.chg cx (fun hmm=>by have:=c_.1 hmm;omega);have hlg7:=(hlg.below hbA5).chg cx (fun hmm=>by have:=c_.1 hmm;omega);have c57:Chg (W.heap.size::XY X2 Y) wc ((w5.alloc (.cells #[.pointer (some ⟨g,0,none⟩)] 140)).setCell ⟨W.heap.size,2,none⟩ (.int .i64 n)):=((hc5.mono fun g hg=>.inl (f_ _ hg)).trans (Chg.of_below hbA5 []) (fun g hg=>by cases hg)).trans cx (fun g hg=>.inl (by rw[c_.1 hg];exact m_));have f57:∀g∈W.heap.size::XY X5 Y,g∈W.heap.size::XY X2 Y∨wc.heap.size≤g:=fun g hg=>by
    rcases g_.1 hg with q|q
    ·exact .inl (by rw[q];exact m_)
    ·exact(hf5 g q).imp (f_ _) id
   have FX7:=hm.fix.step c57 f57;have x2:=hbx6.cell 2;have y2:=hbx6.free 2;have t7:=FX7.now.2.1.cell 0;have t1:=k7.at_.box.cell 1;simp only[Yw.cells,gE0,gE1]at x2 t7 t1;have hvw:=ix2 X5.d k7.at_.man k7.at_.row.row k7.at_.row.nb;unfold Vw.val at hvw;have HVW:=H_ hvw;have HR3:=H_ hR;have HK7:=H_ k7;have HFX:=H_ FX7;have HC57:=H_ (d_ c57 f57);have HBX:=H_ hbx7;have HBG:=H_ hbg7;have HLG:=H_ (d_ hlg7 (d_ hg0 (d_ hg1 (d_ hgl5 (d_ hw5 hgxw)))));have HX5:=H_ (d_ hx5lt hgx5);have HE5:=H_ e5;have hfl2:S5.load≤S.load+6:=by omega
   clear hvw hR k7 FX7 c57 f57 hbx7 hbg7 hlg7 hbx6 hbg cx hg0 hg1 hgl5 hw5 hgxw hgx2 hgx5 hx5lt k5 hs5 hc5 hf5 e5 hbA5 hm HFR HR2 hlg hfl hlr;go_wp2_with fail;generalize hU7:((w5.alloc (.cells #[.pointer (some ⟨g,0,none⟩)] 140)).setCell ⟨W.heap.size,2,none⟩ (.int .i64 n))=w7 at *
   with_reducible refine HVW.out.mono ?_
   rintro e w8 ⟨A8,c8,rfl,hfr8,hb8⟩;have k8:=HK7.out.below hb8;have hnm:=name_any (str Mn.kLog) (by rw[kz];decide) V.M.v.log (by omega) w8 k8.at_.dm.env;rw[nz]at hnm;rw[show str Mn.kLog=({ data:=#[108,111,103] }:ByteArray) from rfl]at hnm;obtain⟨el,hel⟩:=n_ (Mn.name Mn.kLog V.M.v.log);have hell:el.length≤1000:=by rw[hel];exact pj1 _ _
   have hR:=HR3.out;rw[←hel]at hnm hR;have hfd:∀W',(Instr.field 86 (.agg #[.int .i64 V.M.v.log,.slice A8 Y.P.n c8,.int .u64 (V.M.v.floor:Int),.int .u64 (V.M.v.cert:Int),.int .u64 (V.M.v.at_:Int),.int .u64 (V.M.v.lease:Int)]) 0).run Tryz.prog W'=.ok (.int .i64 V.M.v.log) W':=fun _=>rfl;have HNM:=H_ hnm;have HR4:=H_ hR;clear hnm hel hR HR3 HVW hfr8 x2 y2 t1 t7 hU7;go_wp2_with fail
   with_reducible refine HNM.out.mono ?_
   rintro e w9 ⟨rfl,hb9⟩;have hb79:=az hb8 hb9;have k9:=k8.below hb9;have FX9:=HFX.out.below hb79;have hbx9:=HBX.out.below hb79;have hbg9:=HBG.out.below hb79;have hlg9:=HLG.out.1.below hb79;have t9:=FX9.now.2.1.cell 0;have b0:=hbx9.cell 0;have b1:=hbx9.cell 1;have b2:=hbx9.cell 2;have b3:=hbx9.cell 3;have b4:=hbx9.cell 4;have b5:=hbx9.cell 5;have b6:=hbx9.cell 6;simp only[List.set,gE0,gE1]at t9 b0 b1 b2 b3 b4 b5 b6;have hz79:=hb79.size;have hz57:w5.heap.size < w7.heap.size:=HBG.out.lt;have hout:=HM.out.out;have hgtx:=HM.out.gtx;have hsd:Y.s < w.heap.size:=hzz.2.2.1;have hTU:fy5 w.heap.size w9 X5 Y V 136 #[.pointer (some ⟨w3.heap.size,0,none⟩),.pointer (some ⟨w5.heap.size,0,none⟩),.pointer (some ⟨w.heap.size,0,none⟩)] (St.turned n ts):=by
    intro w1 X1 P1 S1 M1 b e1 hc1 hf1 hP1 hs1;have hfl:=FX9 w1 (hc1.mono fun g hg=>.inl (f_ _ hg));have hgo:w5.heap.size∉XY X5 Y:=fun hmm=>by have:=HX5.out.1 _ hmm;omega
    have hz1:=hc1.size;refine yz2 (w0:=w) HH.out (k9.c.trans hc1 k9.f) (fun g hg=>?_) hs1 w3.heap.size w5.heap.size w.heap.size g T q n ts hfl.1 (hbg9.chg hc1 hgo) hfl.2.1 (by omega) (by have:=HLG.out.2.2.2.2.1;have:=HLG.out.2.2.2.2.2;omega) (by omega) ?_ (by have:=HLG.out.2.1;have:=HM.out.way.c.size;omega) (fun hmm=>?_) (hP1.imp id (fun z a ha=>?_)) ?_
    ·rcases hf1 g hg with z|z
     ·exact k9.f g z
     ·exact .inr (h_ k9.c.size z)
    ·rw[e1,HE5.out]
     exact hlg9.chg hc1 HLG.out.2.2.1
    ·rcases hf1 g hmm with z|z
     ·exact HLG.out.2.2.1 z
     ·have:=HLG.out.2.2.2.1
      omega
    ·have:=z a ha
     have:=HLG.out.2.2.2.1;omega
    ·refine(HM.out.fix.step ((HC57.out.1.trans (Chg.of_below hb79 []) (fun g hg=>by cases hg)).trans hc1 (fun g hg=>?_)) (fun g' hg=>?_)).mono (fun W' hq=>hq.2.2.2)
     ·exact HC57.out.2 g (f_ _ hg)
     ·rcases g_.1 hg with z|z
      ·exact .inr (by rw[z];exact HLG.out.2.1)
      ·rcases hf1 g' z with z|z
       ·exact HC57.out.2 g' (f_ _ z)
       ·have:=HLG.out.2.2.2.2.1
        exact .inr (by omega)
   have htn:=ix4 k9.at_ ⟨[],add,n,0,0,0,0⟩ none 0 0 AF nf cf (by omega) (by omega) Row.nil_ FX9.now.2.2.1 (fun a ha=>by cases ha) (fun a ha hmm=>by
    have z1:=hout a ha;have z2:=HC57.out.2 a.block (f_ _ hmm)
    rcases z2 with z|z
    ·rcases g_.1 z with z|z
     ·exact z1.2.1 z
     ·exact z1.1 z
    ·omega) hvf hc0 hnl 136 _ (St.turned n ts) (fun _ _=>rfl) (B:=w.heap.size) k9.c.size hTU
   obtain⟨r,hr⟩:=n_ (St.turn S5 V ⟨[],add,n,0,0,0,0⟩ (St.turned n ts));have hrl:r.1.load≤S5.load:=by rw[hr];exact uj2 _ _ _ _
   have hR:=HR4.out;unfold Ed.val at htn;simp only[b9_]at htn;rw[←hr]at htn;replace hR:R=if r.2.2=0 then ((r.1.remove el).1,r.2.1,0) else r:=by rw[hR,hr]
   obtain⟨S10,V10,er10⟩:=r;simp only at htn hR hrl;have HTN:=H_ htn;have HR5:=H_ hR;have HK9:=H_ k9;have HFX9:=H_ FX9;clear htn hTU hR hr HR4 HNM k8 k9 FX9 hbx9 hbg9 hlg9 hb79 hb8 hb9 hout hgtx hsd HBX HBG HFX HK7;go_wp2_with fail;clear hfd t9 b0 b1 b2 b3 b4 b5 b6
   with_reducible refine HTN.out.mono ?_
   rintro e w10 ⟨rfl,X10,Y10,e10,ey10,hs10,hc10,hf10⟩;have hcw:=HK9.out.c.trans hc10 HK9.out.f;have hfw:∀g∈XY X10 Y10,g∈XY X Y∨w.heap.size≤g:=fun g hg=>by
    rcases hf10 g hg with z|z
    ·exact HK9.out.f g z
    ·exact .inr z
   have hed:X10.d=X.d:=e10.trans HK9.out.d;have hR:=HR5.out
   by_cases h10:er10=0
   ·subst h10
    rw[if_pos rfl]at hR;have hgs:=(HFX9.out w10 (hc10.mono fun g hg=>.inl (f_ _ hg))).2.1;have t10:=hgs.cell 0;have d10:=hs10.box.cell 0;rw[ey10]at d10;simp only[Yw.cells,gE0,gE1]at t10 d10;have hrm:=(Acc.start (F:=[]) hs10.dm).remove (str el) (by rw[kz];unfold maxLen;omega) (by omega);rw[nz]at hrm;obtain⟨a,ha⟩:=n_ (S10.remove el);rw[←ha]at hrm hR;obtain⟨S11,er11⟩:=a;simp only at hrm hR;have HRM:=H_ hrm;have HS:=H_ hs10;have HC:=H_ (d_ hcw (d_ hfw (d_ hed ey10)));have HR6:=H_ hR;clear hrm hs10 hcw hfw hed hR ha hgs HTN e10 ey10 hc10 hf10;go_wp2_with fail
    with_reducible refine HRM.out.mono ?_
    rintro e w11 ⟨rfl,Xq,hq⟩;obtain⟨X11,e11,h11,hc11,hf11⟩:=HS.out.disk hq.updM;have hz:cv1 X Y w R (.returned (.int .i64 0)) w11:=by
     rw[HR6.out];refine⟨rfl,X11,Y10,e11.trans HC.out.2.2.1,HC.out.2.2.2,h11,HC.out.1.trans hc11 HC.out.2.1,fun g hg=>?_⟩
     rcases hf11 g hg with z|z
     ·exact HC.out.2.1 g z
     ·exact .inr (h_ HC.out.1.size z)
    have HZ:=H_ hz;clear hz hq h11 hc11 hf11 e11 t10 d10 HRM;go_wp2;go_ret;exact HZ.out
   ·have e3:((er10:Int)==0)=false:=by simp;omega
    rw[if_neg h10]at hR;have hz:cv1 X Y w R (.returned (.int .i64 (er10:Int))) w10:=by
     rw[hR];exact⟨rfl,X10,Y10,hed,ey10,hs10,hcw,hfw⟩
    have HZ:=H_ hz;clear hz hR h10 hcw hfw hed hs10 hc10 hf10 e10 ey10 HTN;go_wp2;go_ret;exact HZ.out
  ·have e3:((er5:Int)==0)=false:=by simp;omega
   have hR:=HR2.out;rw[if_pos h5]at hR;have hz:cv1 X Y w R (.returned (.int .i64 (er5:Int))) (w5.alloc (.cells #[.pointer p5] 140)):=by
    rw[hR];exact⟨rfl,(k5.below hbA5).upd⟩
   have HZ:=H_ hz;clear hz hR h5 hok k5 hs5 hc5 hf5 e5 hbA5 hbg HR2 hm;go_wp2;go_ret;exact HZ.out
end
end Go.Proofs.YthjdpplgfdihoaaGreatDoor
