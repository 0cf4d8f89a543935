/- Texts ManL, StoA, OwnA, StoI, PlainBorn, SOnce, StoC, StoB in one. No conditions. -/
import Derived.Test.YthjdpplgfdihoaaGreatDoorBunAA
import Derived.Test.YthjdpplgfdihoaaGreatDoorBunAN
import Derived.StillTailTactics
import Derived.Deep.RegionHeld3
import Derived.Test.YthjdpplgfdihoaaGreatDoorBunAE
import Derived.Test.YthjdpplgfdihoaaGreatDoorBunAJ
import Derived.Test.YthjdpplgfdihoaaGreatDoorBunAL
import Derived.Test.YthjdpplgfdihoaaGreatDoorBunAM
import Derived.Test.YthjdpplgfdihoaaGreatDoorBunAI
import Derived.Test.YthjdpplgfdihoaaGreatDoorBunAF
import Derived.Test.YthjdpplgfdihoaaGreatDoorBunAK
import Derived.Lib.MinMax

set_option linter.unusedSimpArgs false
set_option linter.unusedVariables false
set_option maxRecDepth 100000
set_option maxHeartbeats 16000000
namespace Go.Proofs.YthjdpplgfdihoaaGreatDoor
section
open Go Go.RowKit Go.Shelf
variable {P:Sl} {m:Nat} {X X1:Dw} {w w1 w2:World} {S S1:Sd} {M M1:Gs}
theorem Gst.cy3 {P1:Sl} {m:Nat} {X X1:Dw} {w w1 w2:World} {S:Sd} {M M1:Gs} (h:Gst P m X w S M w1 X1) (c:Chg [m] w1 w2) (hm:GK w2 m X.d M1 P1) (hv:Vrow w2 X1 m P1 M1.v.files):Gst P1 m X w S M1 w2 X1:=
 ⟨h.acc.other c (fun g hg=>by rw[List.mem_singleton.1 hg];exact⟨by simp,h.lt,h.out,h.ng⟩),hm,hv,h.lt,h.out,h.ng⟩
theorem zx3 (e:Ed) (D:Option Addr) (dm dd:Nat) (A2:Option Addr) (n2 c2:Nat) (hdm:dm≤1000000) (hn2:n2≤1000000) (hrd:Row w.heap.size w D dm 1 (uz e.drop)) (hra:Row w.heap.size w A2 n2 2 (dw e.add)) (hvf:P.n≤40)
  (hc0:M.count≤1000000000) (hnl:M.name.length≤1000) (h0:Gst P m X w S M w X):
  Calls Tryz.prog 207 #[.pointer (some ⟨m,0,none⟩),e.val D dm dd A2 n2 c2] w (fv1 P m X w (Gw.save S M e)):=by
 obtain⟨R,hR⟩:∃R,R=Gw.save S M e:=⟨_,rfl⟩;rw[←hR];unfold Ed.val;have hbe:Below w.heap.size w (w.alloc (.cells #[.slice D dm dd,.slice A2 n2 c2,.int .i64 e.log,.int .u64 (e.floor:Int),.int .u64 (e.cert:Int),.int .u64 (e.at_:Int),.int .u64 (e.lease:Int)] 194)):=(Below.refl _ _).alloc (Nat.le_refl _) _;have h1:=h0.below hbe;have hbx:=BoxO.new w #[.slice D dm dd,.slice A2 n2 c2,.int .i64 e.log,.int .u64 (e.floor:Int),.int .u64 (e.cert:Int),.int .u64 (e.at_:Int),.int .u64 (e.lease:Int)] 194;have hrd1:=(hrd.below hbe).up hbe.size;have hra1:=(hra.below hbe).up hbe.size;have hlt:=h0.man.lt;have hbel0:=hbe;generalize hV:w.alloc (.cells #[.slice D dm dd,.slice A2 n2 c2,.int .i64 e.log,.int .u64 (e.floor:Int),.int .u64 (e.cert:Int),.int .u64 (e.at_:Int),.int .u64 (e.lease:Int)] 194)=V at *;have b12:=h1.man.cell 12;have y0:=hbx.cell 0;have y1:=hbx.cell 1;have y2:=hbx.cell 2;have y3:=hbx.cell 3;have y4:=hbx.cell 4;have y5:=hbx.cell 5;have y6:=hbx.cell 6;simp only[Gs.cells,gE0,gE1]at b12 y0 y1 y2 y3 y4 y5 y6
 cases hbr:M.broken with
 |true=>
  have hh:R=(S,M,14):=by rw[hR,Gw.save,if_pos hbr]
  have hl:=Lib.hid (fv1.mk_ hh h1);rw[hbr]at b12;clear hR hh hbr;go_enter Tryz.func207,Tryz.ntmps207;go_wp2;go_ret;exact hl.out
 |false=>
 rw[hbr]at b12
 cases hmay:e.may with
 |false=>
  have hh:R=(S,M,1):=by rw[hR,Gw.save,if_neg (by simp[hbr]),if_pos hmay]
  have hput:=nq4 none 0 0 e D dm dd A2 n2 c2 V hmay hdm hn2 hrd1 hra1;unfold Ed.val at hput;have HH:=Lib.hid hh;clear hR hh hbr hmay;go_enter Tryz.func207,Tryz.ntmps207;go_wp2_with fail;refine hput.mono ?_;rintro e1 w2 ⟨rfl,hb2⟩;have hl:=Lib.hid (fv1.mk_ HH.out (h1.below hb2));go_wp2;go_ret;exact hl.out
 |true=>
  have hmp:=av2 hmay;have hdl:=hrd.ilen;have hal:=hra.flen;have hrl:=Ed.rq1 hmay;have hput:=fk3 none 0 0 [] e D dm dd A2 n2 c2 V hmay hrd1 hra1 (by omega) (by omega) (by unfold maxLen;omega) Row.nil_;have hrec:([]:List UInt8)++e.rec_=e.rec_:=rfl;rw[hrec]at hput;unfold Ed.val at hput;obtain⟨okb,hokb⟩:∃b,b=(M.v.app e).isSome:=⟨_,rfl⟩;obtain⟨uu,huu⟩:∃u,u=(M.v.app e).getD Vw.none_:=⟨_,rfl⟩;have HT:R=if okb=true then Gw.put S M e uu else (S,M,1):=by
   rw[hR,Gw.save,if_neg (by simp[hbr]),if_neg (by simp[hmay])];rw[hokb,huu]
   cases M.v.app e with
   |none=>rfl
   |some u=>rfl
  have HTT:=Lib.hid HT;have hdm40:dm≤40:=by omega
  have hn240:n2≤40:=by omega
  clear hR HT hbr hrec hmay hmp hdl hal;go_enter Tryz.func207,Tryz.ntmps207;go_wp2_with fail;refine hput.mono ?_;rintro e1 w2 ⟨A,K,c,rfl,hown,hKc,hcm,hb2⟩;have h2:=h1.below hb2;have hsz2:w.heap.size≤w2.heap.size:=h2.acc.c.size;have hbx2:=hbx.below hb2;have hrd2:=(hrd1.below hb2).up hb2.size;have hra2:=(hra1.below hb2).up hb2.size;have hKC:∀w':World,Below w2.heap.size w2 w'→w'.cell? ⟨m,2,none⟩=some (.int .i64 M.v.log)∧w'.cell? ⟨m,3,none⟩=some (.slice P.a P.n P.c)∧w'.cell? ⟨m,4,none⟩=some (.int .u64 (M.v.floor:Int))∧w'.cell? ⟨m,5,none⟩=some (.int .u64 (M.v.cert:Int))∧w'.cell? ⟨m,6,none⟩=some (.int .u64 (M.v.at_:Int))∧w'.cell? ⟨m,7,none⟩=some (.int .u64 (M.v.lease:Int))∧
    w'.cell? ⟨w.heap.size,0,none⟩=some (.slice D dm dd)∧w'.cell? ⟨w.heap.size,1,none⟩=some (.slice A2 n2 c2)∧w'.cell? ⟨w.heap.size,2,none⟩=some (.int .i64 e.log)∧w'.cell? ⟨w.heap.size,3,none⟩=some (.int .u64 (e.floor:Int))∧w'.cell? ⟨w.heap.size,4,none⟩=some (.int .u64 (e.cert:Int))∧w'.cell? ⟨w.heap.size,5,none⟩=some (.int .u64 (e.at_:Int))∧w'.cell? ⟨w.heap.size,6,none⟩=some (.int .u64 (e.lease:Int)):=fun w' hb=>by
   have hm2:=(h2.below hb).man;have he2:=hbx2.below hb;exact⟨hm2.cell 2,hm2.cell 3,hm2.cell 4,hm2.cell 5,hm2.cell 6,hm2.cell 7,he2.cell 0,he2.cell 1,he2.cell 2,he2.cell 3,he2.cell 4,he2.cell 5,he2.cell 6⟩
  have KC:=Lib.hid hKC;have hap:∀W,Below w2.heap.size w2 W→Calls Tryz.prog 231 #[.agg #[.int .i64 M.v.log,.slice P.a P.n P.c,.int .u64 (M.v.floor:Int),.int .u64 (M.v.cert:Int),.int .u64 (M.v.at_:Int),.int .u64 (M.v.lease:Int)],.agg #[.slice D dm dd,.slice A2 n2 c2,.int .i64 e.log,.int .u64 (e.floor:Int),.int .u64 (e.cert:Int),.int .u64 (e.at_:Int),.int .u64 (e.lease:Int)]] W fun r W'=>Below W.heap.size W W'∧∃Au nu cu,r=.returned (.tuple #[.agg #[.int .i64 uu.log,.slice Au nu cu,.int .u64 (uu.floor:Int),.int .u64 (uu.cert:Int),.int .u64 (uu.at_:Int),.int .u64 (uu.lease:Int)],.bool okb])∧(okb=true→ez1 W.heap.size W' Au nu cu uu.files):=fun W hW=>by
   refine(ow2 M.v P.a P.n P.c e D dm dd A2 n2 c2 W (by omega) (by omega) (by omega) ((h2.row.row.below hW).up hW.size) ((hrd2.below hW).up hW.size) ((hra2.below hW).up hW.size)).mono ?_;rintro r W' ⟨hb,hr⟩;refine⟨hb,?_⟩
   cases hva:M.v.app e with
   |none=>
    rw[hva]at hr hokb huu;subst hokb huu;exact⟨none,0,0,hr,fun h=>by cases h⟩
   |some u=>
    rw[hva]at hr hokb huu;subst hokb huu;obtain⟨A3,N3,c3,hr,hf⟩:=hr;exact⟨A3,N3,c3,hr,fun _=>hf⟩
  have hok40:okb=true→uu.files.length≤40:=fun ho=>by
   cases hva:M.v.app e with
   |none=>rw[hokb,hva]at ho;cases ho
   |some u=>rw[huu,hva];exact Vw.vk3 hva
  have HAP:=Lib.hid hap;have H40:=Lib.hid hok40;clear hap hKC y0 y1 y2 y3 y4 y5 y6 hput b12 hb2 hokb huu hok40 hrd hra hrd1 hra1 hrd2 hra2 hbx hbx2 hV;go_wp2;refine wp_region_held_drew (S:=fun w'=>Below w2.heap.size w2 w') rfl (ak (Below.refl _ _)) (fun hSw=>?_);refine wpT (i:=0) (v:=?v0) ?h0 hSw ?k0
  case h0=>(intro w hSw;(obtain⟨z2,z3,z4,z5,z6,z7,y0,y1,y2,y3,y4,y5,y6⟩:=KC.out w hSw);go_simp;try (with_reducible rfl))
  go_simp;refine wpT (i:=1) (v:=?v1) ?h1 hSw ?k1
  case h1=>(intro w hSw;(obtain⟨z2,z3,z4,z5,z6,z7,y0,y1,y2,y3,y4,y5,y6⟩:=KC.out w hSw);go_simp;try (with_reducible rfl))
  go_simp;refine wpT (i:=2) (v:=?v2) ?h2 hSw ?k2
  case h2=>(intro w hSw;(obtain⟨z2,z3,z4,z5,z6,z7,y0,y1,y2,y3,y4,y5,y6⟩:=KC.out w hSw);go_simp;try (with_reducible rfl))
  go_simp;refine wpT (i:=3) (v:=?v3) ?h3 hSw ?k3
  case h3=>(intro w hSw;(obtain⟨z2,z3,z4,z5,z6,z7,y0,y1,y2,y3,y4,y5,y6⟩:=KC.out w hSw);go_simp;try (with_reducible rfl))
  go_simp;refine wpT (i:=4) (v:=?v4) ?h4 hSw ?k4
  case h4=>(intro w hSw;(obtain⟨z2,z3,z4,z5,z6,z7,y0,y1,y2,y3,y4,y5,y6⟩:=KC.out w hSw);go_simp;try (with_reducible rfl))
  go_simp;refine wpAnyH_ready (rs:=[5,9]) (by kernel_rfl) (by simp) ?_;refine AllReadyH.cons rfl (fun K hK=>?_) (AllReadyH.cons rfl (fun K hK=>?_) AllReadyH.nil)
  case' refine_1=>
   go_simp;refine(HAP.out _ hSw).mono ?_;rintro e5 w5 ⟨hb5,Au,nu,cu,rfl,hfr⟩;go_simp;refine hK.out _ _ (hSw.trans (hb5.mono hSw.size)) (fun hSn=>?_);clear hK K hSw;have hSw:=hSn;clear hSn;go_simp;refine wpT (i:=6) (v:=?va6) ?ha6 hSw ?ka6
   case ha6=>(intro w hSw;(obtain⟨z2,z3,z4,z5,z6,z7,y0,y1,y2,y3,y4,y5,y6⟩:=KC.out w hSw);go_simp;try (with_reducible rfl))
   go_simp;refine wpT (i:=7) (v:=?va7) ?ha7 hSw ?ka7
   case ha7=>(intro w hSw;(obtain⟨z2,z3,z4,z5,z6,z7,y0,y1,y2,y3,y4,y5,y6⟩:=KC.out w hSw);go_simp;try (with_reducible rfl))
   go_simp;refine wpT (i:=8) (v:=?va8) ?ha8 hSw ?ka8
   case ha8=>(intro w hSw;(obtain⟨z2,z3,z4,z5,z6,z7,y0,y1,y2,y3,y4,y5,y6⟩:=KC.out w hSw);go_simp;try (with_reducible rfl))
   go_simp;have hS5:=Lib.hid hSw;refine wpAnyH_ready (rs:=[9]) (by kernel_rfl) (by simp) ?_;refine AllReadyH.cons rfl (fun K hK=>?_) AllReadyH.nil;go_simp;refine hK.out _ _ (hSw.alloc hSw.size _) (fun hSn=>?_);clear hK K hSw;have hSw:=hSn;clear hSn;go_simp;refine wpAnyH_ready (rs:=[10]) (by kernel_rfl) (by simp) ?_;refine AllReadyH.cons rfl (fun K hK=>?_) AllReadyH.nil;go_simp;refine hK.out _ _ (hS5.out.alloc hS5.out.size _) (fun hSn=>?_);clear hK K hSw;have hSw:=hSn;clear hSn;go_simp;refine wpAnyH_ready (rs:=[11]) (by kernel_rfl) (by simp) ?_;refine AllReadyH.cons rfl (fun K hK=>?_) AllReadyH.nil;go_simp;refine hK.out _ _ hSw (fun hSn=>?_);clear hK K hSw;have hSw:=hSn;clear hSn;go_simp;refine wpAnyH_done (by kernel_rfl) ?_ _;have hbv:BoxO _ 86 w5.heap.size [.int .i64 uu.log,.slice Au nu cu,.int .u64 (uu.floor:Int),.int .u64 (uu.cert:Int),.int .u64 (uu.at_:Int),.int .u64 (uu.lease:Int)]:=BoxO.new w5 #[.int .i64 uu.log,.slice Au nu cu,.int .u64 (uu.floor:Int),.int .u64 (uu.cert:Int),.int .u64 (uu.at_:Int),.int .u64 (uu.lease:Int)] 86;have hgb:w2.heap.size≤w5.heap.size:=hS5.out.size;have hfrW:okb=true→ez1 w2.heap.size (w5.alloc (.cells #[.int .i64 uu.log,.slice Au nu cu,.int .u64 (uu.floor:Int),.int .u64 (uu.cert:Int),.int .u64 (uu.at_:Int),.int .u64 (uu.lease:Int)] 86)) Au nu cu uu.files:=fun ho=>((hfr ho).base (Nat.le_refl _)).below ((Below.refl _ _).alloc (Nat.le_refl _) _);generalize w5.heap.size=gb at *;generalize w5.alloc (.cells #[.int .i64 uu.log,.slice Au nu cu,.int .u64 (uu.floor:Int),.int .u64 (uu.cert:Int),.int .u64 (uu.at_:Int),.int .u64 (uu.lease:Int)] 86)=W at *;clear hS5 hb5 hfr w5
  case' refine_2=>
   go_simp;refine hK.out _ _ (hSw.alloc hSw.size _) (fun hSn=>?_);clear hK K hSw;have hSw:=hSn;clear hSn;go_simp;refine wpAnyH_ready (rs:=[5]) (by kernel_rfl) (by simp) ?_;refine AllReadyH.cons rfl (fun K hK=>?_) AllReadyH.nil;have hbz:BoxO (w2.drew.alloc (.cells #[.int .i64 0,.slice none 0 0,.int .u64 0,.int .u64 0,.int .u64 0,.int .u64 0] 86)) 86 w2.heap.size [.int .i64 0,.slice none 0 0,.int .u64 0,.int .u64 0,.int .u64 0,.int .u64 0]:=BoxO.new w2.drew #[.int .i64 0,.slice none 0 0,.int .u64 0,.int .u64 0,.int .u64 0,.int .u64 0] 86;go_simp;refine(HAP.out _ hSw).mono ?_;rintro e5 w5 ⟨hb5,Au,nu,cu,rfl,hfr⟩;have hbz5:=hbz.below hb5;go_simp;refine hK.out _ _ (hSw.trans (hb5.mono hSw.size)) (fun hSn=>?_);clear hK K hSw;have hSw:=hSn;clear hSn;go_simp;refine wpT (i:=6) (v:=?vb6) ?hb6 hSw ?kb6
   case hb6=>(intro w hSw;(obtain⟨z2,z3,z4,z5,z6,z7,y0,y1,y2,y3,y4,y5,y6⟩:=KC.out w hSw);go_simp;try (with_reducible rfl))
   go_simp;refine wpT (i:=7) (v:=?vb7) ?hb7 hSw ?kb7
   case hb7=>(intro w hSw;(obtain⟨z2,z3,z4,z5,z6,z7,y0,y1,y2,y3,y4,y5,y6⟩:=KC.out w hSw);go_simp;try (with_reducible rfl))
   go_simp;refine wpT (i:=8) (v:=?vb8) ?hb8 hSw ?kb8
   case hb8=>(intro w hSw;(obtain⟨z2,z3,z4,z5,z6,z7,y0,y1,y2,y3,y4,y5,y6⟩:=KC.out w hSw);go_simp;try (with_reducible rfl))
   go_simp;have g0:=hbz5.cell 0;have f0:=hbz5.free 0;have g1:=hbz5.cell 1;have f1:=hbz5.free 1;have g2:=hbz5.cell 2;have f2:=hbz5.free 2;have g3:=hbz5.cell 3;have f3:=hbz5.free 3;have g4:=hbz5.cell 4;have f4:=hbz5.free 4;have g5:=hbz5.cell 5;have f5:=hbz5.free 5;simp only[gE0,gE1]at g0 g1 g2 g3 g4 g5;refine wpAnyH_ready (rs:=[10]) (by kernel_rfl) (by simp) ?_;refine AllReadyH.cons rfl (fun K hK=>?_) AllReadyH.nil;go_simp;have hbv:=((((((hbz5.store 0 (.int .i64 uu.log)).store 1 (.slice Au nu cu)).store 2 (.int .u64 (uu.floor:Int))).store 3 (.int .u64 (uu.cert:Int))).store 4 (.int .u64 (uu.at_:Int))).store 5 (.int .u64 (uu.lease:Int)));have hCz:=(((((((Chg.refl [w2.heap.size] w5).setCell (p:=⟨w2.heap.size,0,none⟩) (.int .i64 uu.log) (.inl (by simp))).setCell (p:=⟨w2.heap.size,1,none⟩) (.slice Au nu cu) (.inl (by simp))).setCell (p:=⟨w2.heap.size,2,none⟩) (.int .u64 (uu.floor:Int)) (.inl (by simp))).setCell (p:=⟨w2.heap.size,3,none⟩) (.int .u64 (uu.cert:Int)) (.inl (by simp))).setCell (p:=⟨w2.heap.size,4,none⟩) (.int .u64 (uu.at_:Int)) (.inl (by simp))).setCell (p:=⟨w2.heap.size,5,none⟩) (.int .u64 (uu.lease:Int)) (.inl (by simp)));refine hK.out _ _ ((((((hSw.setCell (p:=⟨w2.heap.size,0,none⟩) (Nat.le_refl _) _).setCell (p:=⟨w2.heap.size,1,none⟩) (Nat.le_refl _) _).setCell (p:=⟨w2.heap.size,2,none⟩) (Nat.le_refl _) _).setCell (p:=⟨w2.heap.size,3,none⟩) (Nat.le_refl _) _).setCell (p:=⟨w2.heap.size,4,none⟩) (Nat.le_refl _) _).setCell (p:=⟨w2.heap.size,5,none⟩) (Nat.le_refl _) _) (fun hSn=>?_);clear g0 g1 g2 g3 g4 g5 f0 f1 f2 f3 f4 f5;clear hK K hSw;have hSw:=hSn;clear hSn;go_simp;refine wpAnyH_ready (rs:=[11]) (by kernel_rfl) (by simp) ?_;refine AllReadyH.cons rfl (fun K hK=>?_) AllReadyH.nil;go_simp;refine hK.out _ _ hSw (fun hSn=>?_);clear hK K hSw;have hSw:=hSn;clear hSn;go_simp;refine wpAnyH_done (by kernel_rfl) ?_ _;have hbv:BoxO _ 86 w2.heap.size [.int .i64 uu.log,.slice Au nu cu,.int .u64 (uu.floor:Int),.int .u64 (uu.cert:Int),.int .u64 (uu.at_:Int),.int .u64 (uu.lease:Int)]:=hbv;have hfrW:okb=true→ez1 w2.heap.size ((((((w5.setCell ⟨w2.heap.size,0,none⟩ (.int .i64 uu.log)).setCell ⟨w2.heap.size,1,none⟩ (.slice Au nu cu)).setCell ⟨w2.heap.size,2,none⟩ (.int .u64 (uu.floor:Int))).setCell ⟨w2.heap.size,3,none⟩ (.int .u64 (uu.cert:Int))).setCell ⟨w2.heap.size,4,none⟩ (.int .u64 (uu.at_:Int))).setCell ⟨w2.heap.size,5,none⟩ (.int .u64 (uu.lease:Int))) Au nu cu uu.files:=fun ho=>((hfr ho).chg hCz (fun a ha hm=>by have:=(hfr ho).low a ha;simp at hm this;omega)).base (by simp);obtain⟨gb,hgb0,hgb⟩:∃g,g=w2.heap.size∧w2.heap.size≤g:=⟨_,rfl,Nat.le_refl _⟩;generalize ((((((w5.setCell ⟨w2.heap.size,0,none⟩ (.int .i64 uu.log)).setCell ⟨w2.heap.size,1,none⟩ (.slice Au nu cu)).setCell ⟨w2.heap.size,2,none⟩ (.int .u64 (uu.floor:Int))).setCell ⟨w2.heap.size,3,none⟩ (.int .u64 (uu.cert:Int))).setCell ⟨w2.heap.size,4,none⟩ (.int .u64 (uu.at_:Int))).setCell ⟨w2.heap.size,5,none⟩ (.int .u64 (uu.lease:Int)))=W at *;clear hbz5 hbz hb5 hCz hfr w5;rw[←hgb0]at hbv ⊢;clear hgb0
  all_goals
   have h3:=h2.below hSw;have hfr3:=hfrW;have hm2lt:=h2.man.lt;have hdk2:=h2.acc.dm.dk;have hrow:=Lib.hid ((((Row.own hown).below hSw)).arg (B:=w2.heap.size) hSw.size);have hA:∀a,A=some a→a.block∉X.foot:=fun a ha hm=>by
    obtain⟨A',c',e',_,_,h6⟩:=ay hown;injection e' with e' _ _;have h7:=(h6 a (by rw[←e'];exact ha)).1;have h8:=h1.acc.dm.dk.lt _ hm;omega
   have hKl:K≤1099511627776:=by
    have e1:=(Row.own hown).yz;omega
   have hmgb:¬m=gb:=by omega
   have hgbX:gb∉[m] ++X.foot:=fun hm=>by
    rcases List.mem_append.1 hm with h5|h5
    ·exact hmgb (List.mem_singleton.1 h5).symm
    ·have:=hdk2.lt _ h5
     omega
   have hS2:=hSw.size;clear hSw hfrW HAP h2
   cases okb with
   |false=>
    have hh:R=(S,M,1):=HTT.out.trans (if_neg (by simp));have hl:=Lib.hid (fv1.mk_ hh h3);clear hh hbv h3 KC hfr3 hrow hA;go_wp2;go_ret;exact hl.out
   |true=>
   have HT1:=HTT.out.trans (if_pos rfl);have hfr4:=hfr3 rfl;have hu40:=H40.out rfl;have HT1H:=Lib.hid HT1;clear HTT HT1 hfr3 H40;have h4:=(h3.below (ak (Below.refl _ _))).anew;have hbx5:BoxO W.drew 86 gb [.int .i64 uu.log,.slice Au nu cu,.int .u64 (uu.floor:Int),.int .u64 (uu.cert:Int),.int .u64 (uu.at_:Int),.int .u64 (uu.lease:Int)]:=hbv;have hap:=h4.append (str M.name) (by rw[qx];unfold maxLen;omega) A K c e.rec_ hKl hrow.out.drew hA;rw[rq]at hap;have HAP:=Lib.hid hap;have d0:=h3.man.cell 0;have d1:=h3.man.cell 1;simp only[Gs.cells,gE0,gE1]at d0 d1;have HB5:=Lib.hid hbx5;have HGX:=Lib.hid hgbX;have hfrD:ez1 w2.heap.size W.drew Au nu cu uu.files:=hfr4.below (ak (Below.refl _ _));have HFR:=Lib.hid hfrD;have HT2:Hid (R=if (S.append M.name e.rec_).2≠0 then ((S.append M.name e.rec_).1,M,(S.append M.name e.rec_).2) else if ((S.append M.name e.rec_).1.sync M.name).2≠0 then (((S.append M.name e.rec_).1.sync M.name).1,{ M with count:=M.count+1,v:=uu,broken:=true },((S.append M.name e.rec_).1.sync M.name).2) else (((S.append M.name e.rec_).1.sync M.name).1,{ M with count:=M.count+1,v:=uu },0)):=HT1H.out;have hmlt4:=h4.man.lt;have hfl:=hfr4.row.flen;clear hap hown hA hKl hrow hbv hbe hbel0 hbx5 hgbX KC hfr4 hfrD HT1H;generalize S.append M.name e.rec_=PP at *;obtain⟨S1,e1⟩:=PP;simp only at HT2;go_wp2
   go_still_tail 9,(by kernel_rfl)
   change wpList _ _ _ _ _ (World.drew W);go_wp2_with fail;refine HAP.out.mono ?_;rintro e6 w6 ⟨rfl,X6,h6⟩
   by_cases q1:e1=0
   case neg=>
    have hne:=neq0 q1;have hh:=HT2.out;rw[if_pos q1]at hh;have hl:=Lib.hid (fv1.mk_ hh ((h3.below (ak (Below.refl _ _))).trans h6));clear hh;go_wp2;go_ret;exact hl.out
   subst q1;have HT3:Hid (R=if (S1.sync M.name).2≠0 then ((S1.sync M.name).1,{ M with count:=M.count+1,v:=uu,broken:=true },(S1.sync M.name).2) else ((S1.sync M.name).1,{ M with count:=M.count+1,v:=uu },0)):=HT2.out.trans (if_neg (by simp));have hbx6:=HB5.out.chg h6.acc.c HGX.out;have hrow6:Row w6.heap.size w6 Au nu 2 (dw uu.files):=by
    refine(yj h6.acc.c HFR.out.row (Nat.le_refl _) (fun j hj a ha hm=>?_)).up h6.acc.c.size;have h7:=HFR.out.low a ha
    rcases List.mem_append.1 hm with h5|h5
    ·have:=List.mem_singleton.1 h5
     omega
    ·have:=hdk2.lt _ h5
     omega
   have hvr6:Vrow w6 X6 m ⟨Au,nu,cu⟩ uu.files:=by
    refine⟨hrow6,HFR.out.nc,HFR.out.cm,by simp only;omega,fun j hj a ha=>?_⟩;have h7:=HFR.out.low a ha;have h8:=qx4 HFR.out.row hj ha;refine⟨by omega,fun hm=>?_⟩
    rcases h6.acc.f _ hm with h9|h9
    ·have:=hdk2.lt _ h9
     omega
    ·omega
   have hlow:∀a,(⟨Au,nu,cu⟩:Sl).a=some a→w.heap.size≤a.block:=fun a ha=>by
    have h7:=HFR.out.low a ha;omega
   have HLOW:=Lib.hid hlow;clear hlow;have x0:=hbx6.cell 0;have x1:=hbx6.cell 1;have x2:=hbx6.cell 2;have x3:=hbx6.cell 3;have x4:=hbx6.cell 4;have x5:=hbx6.cell 5;have d2:=h6.man.cell 2;have d3:=h6.man.cell 3;have d4:=h6.man.cell 4;have d5:=h6.man.cell 5;have d6:=h6.man.cell 6;have d7:=h6.man.cell 7;have d8:=h6.man.cell 8;have f2:=h6.man.free 2;have f3:=h6.man.free 3;have f4:=h6.man.free 4;have f5:=h6.man.free 5;have f6:=h6.man.free 6;have f7:=h6.man.free 7;have f8:=h6.man.free 8;simp only[Gs.cells,gE0,gE1]at x0 x1 x2 x3 x4 x5 d2 d3 d4 d5 d6 d7 d8;have hmk:GK (((((((w6.setCell ⟨m,8,none⟩ (.int .i64 ((M.count:Int)+1))).setCell ⟨m,2,none⟩ (.int .i64 uu.log)).setCell ⟨m,3,none⟩ (.slice Au nu cu)).setCell ⟨m,4,none⟩ (.int .u64 (uu.floor:Int))).setCell ⟨m,5,none⟩ (.int .u64 (uu.cert:Int))).setCell ⟨m,6,none⟩ (.int .u64 (uu.at_:Int))).setCell ⟨m,7,none⟩ (.int .u64 (uu.lease:Int))) m X.d { M with count:=M.count+1,v:=uu } ⟨Au,nu,cu⟩:=(((((((h6.man.store 8 (.int .i64 ((M.count:Int)+1))).store 2 (.int .i64 uu.log)).store 3 (.slice Au nu cu)).store 4 (.int .u64 (uu.floor:Int))).store 5 (.int .u64 (uu.cert:Int))).store 6 (.int .u64 (uu.at_:Int))).store 7 (.int .u64 (uu.lease:Int)));have hcm6:Chg [m] w6 (((((((w6.setCell ⟨m,8,none⟩ (.int .i64 ((M.count:Int)+1))).setCell ⟨m,2,none⟩ (.int .i64 uu.log)).setCell ⟨m,3,none⟩ (.slice Au nu cu)).setCell ⟨m,4,none⟩ (.int .u64 (uu.floor:Int))).setCell ⟨m,5,none⟩ (.int .u64 (uu.cert:Int))).setCell ⟨m,6,none⟩ (.int .u64 (uu.at_:Int))).setCell ⟨m,7,none⟩ (.int .u64 (uu.lease:Int))):=((((((((Chg.refl [m] w6).setCell _ (.inl (by simp))).setCell _ (.inl (by simp))).setCell _ (.inl (by simp))).setCell _ (.inl (by simp))).setCell _ (.inl (by simp))).setCell _ (.inl (by simp))).setCell _ (.inl (by simp)));have h7:=Lib.hid (((h3.below (ak (Below.refl _ _))).trans h6).cy3 hcm6 hmk (hvr6.turn hcm6));clear hmk hcm6 hbx6 h6 HAP h4 h3 HB5 HGX hvr6 hrow6 HFR;have D0:=h7.out.man.cell 0;have D1:=h7.out.man.cell 1;simp only[Gs.cells,gE0,gE1]at D0 D1;go_wp2;generalize (((((((w6.setCell ⟨m,8,none⟩ (.int .i64 ((M.count:Int)+1))).setCell ⟨m,2,none⟩ (.int .i64 uu.log)).setCell ⟨m,3,none⟩ (.slice Au nu cu)).setCell ⟨m,4,none⟩ (.int .u64 (uu.floor:Int))).setCell ⟨m,5,none⟩ (.int .u64 (uu.cert:Int))).setCell ⟨m,6,none⟩ (.int .u64 (uu.at_:Int))).setCell ⟨m,7,none⟩ (.int .u64 (uu.lease:Int)))=V7 at *;clear x0 x1 x2 x3 x4 x5 d2 d3 d4 d5 d6 d7 d8 f2 f3 f4 f5 f6 f7 f8 d0 d1;have h8:=h7.out.below (ak (Below.refl _ _));have hsy:=h8.sync (str M.name) (by rw[qx];unfold maxLen;omega);rw[rq]at hsy;have HSY:=Lib.hid hsy;clear hsy h8;generalize S1.sync M.name=PP at *;obtain⟨S2,e2⟩:=PP
   go_still_tail 8,(by kernel_rfl)
   change wpList _ _ _ _ _ (World.drew V7);go_wp2_with fail;refine HSY.out.mono ?_;rintro e9 w9 ⟨rfl,X9,h9⟩
   by_cases q2:e2=0
   case neg=>
    have hne:=neq0 q2;have hh:R=(S2,{ M with count:=M.count+1,v:=uu,broken:=true },e2):=HT3.out.trans (if_pos q2);have HH:=Lib.hid hh;clear hh;go_wp2_with fail;refine h9.ry4.mono ?_;rintro e10 w10 ⟨rfl,h10⟩;have hl:=Lib.hid (fv1.mkN (P0:=P) HH.out h10 HLOW.out);go_wp2;go_ret;exact hl.out
   subst q2;have hl:=Lib.hid (fv1.mkN (P0:=P) (HT3.out.trans (if_neg (by simp))) h9 HLOW.out);go_wp2;go_ret;exact hl.out
end
section
open Go Go.RowKit Go.Lib Go.Shelf
abbrev Tq:=((Int×Int)×List (List It))×Nat
structure Yw where
 s:Nat
 m:Nat
 g:Nat
 mm:Nat
 L:Nat
 ns:List Nd
 P:Sl
 T:Sl
 A:Sl
 q:List Tq
def Yw.foot (Y:Yw):List Nat:=Y.s::Y.m::Y.g::Y.mm::skF Y.L Y.ns
def Yw.cells (Y:Yw) (xd:Nat) (V:Sv):List Value:=[.pointer (some ⟨xd,0,none⟩),.pointer (some ⟨Y.m,0,none⟩),.pointer (some ⟨Y.g,0,none⟩),.pointer (some ⟨Y.mm,0,none⟩),.slice Y.T.a Y.T.n Y.T.c,.slice Y.A.a Y.A.n Y.A.c,.int .i64 (Y.A.n:Int),.int .u32 (if V.only=true then 1 else 0),.int .i32 0,.int .u32 0,.bool V.only]
def hcells (q:List Tq):List Value:=q.flatMap fun p=>[.int .i64 p.1.1.1,.int .i64 p.1.1.2,.pointer (some ⟨p.2,0,none⟩)]
def vx2 (w:World) (T:Sl) (q:List Tq) (ts:List ((Int×Int)×List (List It))):Prop:=q.map (·.1)=ts∧Row w.heap.size w T.a T.n 3 (hcells q)∧T.n≤T.c∧T.c≤maxLen∧(T.a=none→T.n=0∧T.c=0)∧∀p∈q,TbAt w p.2 p.1.2
structure Yw.Apart (X:Dw) (Y:Yw):Prop where
 x:∀g∈Y.foot,g∉X.foot
 s:Y.s∉Y.m::Y.g::Y.mm::skF Y.L Y.ns
 m:Y.m∉Y.g::Y.mm::skF Y.L Y.ns
 g:Y.g∉Y.mm::skF Y.L Y.ns
abbrev XY (X:Dw) (Y:Yw):List Nat:=X.foot++Y.foot
structure SvAt (w:World) (X:Dw) (S:Sd) (Y:Yw) (V:Sv):Prop where
 dm:Dm w X S
 box:BoxO w 153 Y.s (Y.cells X.d V)
 man:GK w Y.m X.d V.M Y.P
 row:Vrow w X Y.m Y.P V.M.v.files
 pout:∀j,j < (dw V.M.v.files).length→∀a,Y.P.a=some a→a.block∉Y.foot
 log:LgAt w Y.g X.d V.nm V.sz V.ct
 mem:MmAt w Y.mm Y.L Y.ns
 its:its Y.ns=V.mem
 tabs:gv1 (XY X Y) w fun w=>vx2 w Y.T Y.q V.tabs
 st:gv1 (XY X Y) w fun w=>Its 0 w Y.A.a Y.A.n Y.A.c V.st
 apart:Y.Apart X
 ng:∀g∈Y.foot,NG≤g
variable {w w1 w2:World} {X X1 X2:Dw} {S S1 S2:Sd} {Y Y1 Y2:Yw} {V V1 V2:Sv}
theorem Yw.aj {g:Nat}:g∈Y.foot↔g=Y.s∨g=Y.m∨g=Y.g∨g=Y.mm∨g∈skF Y.L Y.ns:=by simp[Yw.foot]
theorem MmAt.lt {w:World} {m L:Nat} {ns:List Nd} (h:MmAt w m L ns):∀g∈m::skF L ns,g < w.heap.size:=by
 intro g hg
 rcases List.mem_cons.1 hg with rfl|hg
 ·obtain⟨_,hb⟩:=h.box
  exact hb.lt
 ·exact h.sk.lt g hg
theorem SvAt.ylt (h:SvAt w X S Y V):∀g∈Y.foot,g < w.heap.size:=by
 intro g hg
 rcases Yw.aj.1 hg with rfl|rfl|rfl|rfl|h1
 ·exact h.box.lt
 ·exact h.man.lt
 ·exact h.log.lt
 ·exact h.mem.lt _ List.mem_cons_self
 ·exact h.mem.lt _ (List.mem_cons_of_mem _ h1)
theorem SvAt.lt (h:SvAt w X S Y V):∀g∈XY X Y,g < w.heap.size:=by
 intro g hg
 rcases List.mem_append.1 hg with h1|h1
 ·exact h.dm.dk.lt g h1
 ·exact h.ylt g h1
theorem SvAt.alen (h:SvAt w X S Y V):Y.A.n=V.st.length:=h.st.now.row.bj1.symm
theorem SvAt.plen (h:SvAt w X S Y V):Y.P.n=V.M.v.files.length:=by
 have:=h.row.row.len;unfold dw at this;have e:∀l:List (Int×Int),(l.flatMap fun f=>[Value.int .i64 f.1,Value.int .i64 f.2]).length=l.length *2:=fun l=>by
  induction l with
  |nil=>rfl
  |cons a l ih=>rw[List.flatMap_cons,List.length_append,ih,List.length_cons];simp only[List.length_cons,List.length_nil];omega
 rw[e]at this;omega
theorem SvAt.chg {G:List Nat} (h:SvAt w X S Y V) (c:Chg G w w1) (hG:∀g∈G,g∉XY X Y∧NG≤g) (hP:∀a,Y.P.a=some a→a.block∉G) (ht:gv1 (XY X Y) w1 fun w=>vx2 w Y.T Y.q V.tabs) (hs:gv1 (XY X Y) w1 fun w=>Its 0 w Y.A.a Y.A.n Y.A.c V.st):SvAt w1 X S Y V:=by
 have hn:∀g∈Y.foot,g∉G:=fun g h1 h2=>(hG g h2).1 (List.mem_append_right _ h1);refine⟨h.dm.chg c (fun g hg=>⟨fun hm=>(hG g hg).1 (List.mem_append_left _ hm),(hG g hg).2⟩),h.box.chg c (hn _ (Yw.aj.2 (.inl rfl))),h.man.chg c (hn _ (Yw.aj.2 (.inr (.inl rfl)))),?_,h.pout,h.log.chg c (hn _ (Yw.aj.2 (.inr (.inr (.inl rfl))))),h.mem.chg c (fun g hg=>hn g (Yw.aj.2 ?_)),h.its,ht,hs,h.apart,h.ng⟩
 ·exact⟨(yj c h.row.row (Nat.le_refl _) (fun j hj a ha=>hP a ha)).up c.size,h.row.nc,h.row.cm,h.row.nb,h.row.away⟩
 ·rcases List.mem_cons.1 hg with rfl|hg
  ·exact .inr (.inr (.inr (.inl rfl)))
  ·exact .inr (.inr (.inr (.inr hg)))
theorem SvAt.below (h:SvAt w X S Y V) (hb:Below w.heap.size w w1):SvAt w1 X S Y V:=
 h.chg (G:=[]) (Chg.of_below hb []) (fun g hg=>by cases hg) (fun a _ hm=>by cases hm) (h.tabs.below hb) (h.st.below hb)
theorem SvAt.disk (h:SvAt w X S Y V) (hu:UpdM X w w1 S1):∃X1,X1.d=X.d∧SvAt w1 X1 S1 Y V∧Chg (XY X Y) w w1∧(∀g∈XY X1 Y,g∈XY X Y∨w.heap.size≤g):=by
 obtain⟨X1,e,hd,c,hf⟩:=hu;have hn:∀g∈Y.foot,g∉X.foot:=h.apart.x;have hc2:Chg (XY X Y) w w1:=c.mono fun g hg=>.inl (List.mem_append_left _ hg);have hf2:∀g∈XY X1 Y,g∈XY X Y∨w.heap.size≤g:=fun g hg=>by
  rcases List.mem_append.1 hg with h1|h1
  ·rcases hf g h1 with h2|h2
   ·exact .inl (List.mem_append_left _ h2)
   ·exact .inr h2
  ·exact .inl (List.mem_append_right _ h1)
 refine⟨X1,e,⟨hd,by rw[e];exact h.box.chg c (hn _ (Yw.aj.2 (.inl rfl))),by rw[e];exact h.man.chg c (hn _ (Yw.aj.2 (.inr (.inl rfl)))),h.row.step c hf,h.pout,by rw[e];exact h.log.chg c (hn _ (Yw.aj.2 (.inr (.inr (.inl rfl))))),h.mem.chg c (fun g hg=>hn g (Yw.aj.2 ?_)),h.its,h.tabs.step hc2 hf2,h.st.step hc2 hf2,⟨fun g hg hm=>?_,h.apart.s,h.apart.m,h.apart.g⟩,h.ng⟩,hc2,hf2⟩
 ·rcases List.mem_cons.1 hg with rfl|hg
  ·exact .inr (.inr (.inr (.inl rfl)))
  ·exact .inr (.inr (.inr (.inr hg)))
 ·rcases hf g hm with h1|h1
  ·exact hn g hg h1
  ·have:=h.ylt g hg
   omega
theorem SvAt.dj5 (h:SvAt w X S Y V):Y.m∉X.foot:=h.apart.x _ (Yw.aj.2 (.inr (.inl rfl)))
theorem SvAt.gst (h:SvAt w X S Y V):Gst Y.P Y.m X w S V.M w X:=Gst.start h.dm h.man h.row h.dj5 (h.ng _ (Yw.aj.2 (.inr (.inl rfl))))
theorem SvAt.cw5 (h:SvAt w X S Y V) {M1:Gs} {P1:Sl} (k:Gst P1 Y.m X w S1 M1 w1 X1) (hP:P1=Y.P∨∀a,P1.a=some a→w.heap.size≤a.block):SvAt w1 X1 S1 { Y with P:=P1 } { V with M:=M1 }∧Chg (XY X Y) w w1∧∀g∈XY X1 { Y with P:=P1 },g∈XY X Y∨w.heap.size≤g:=by
 have hn:∀g∈Y.foot,g∉X.foot:=h.apart.x;have e:=k.acc.e;have hf:=k.acc.f;have c:Chg ([Y.m] ++X.foot) w w1:=k.acc.c;have hc2:Chg (XY X Y) w w1:=c.mono fun g hg=>.inl (by
  rcases List.mem_append.1 hg with h1|h1
  ·rw[List.mem_singleton.1 h1]
   exact List.mem_append_right _ (Yw.aj.2 (.inr (.inl rfl)))
  ·exact List.mem_append_left _ h1)
 have hf2:∀g∈XY X1 Y,g∈XY X Y∨w.heap.size≤g:=fun g hg=>by
  rcases List.mem_append.1 hg with h1|h1
  ·rcases hf g h1 with h2|h2
   ·exact .inl (List.mem_append_left _ h2)
   ·exact .inr h2
  ·exact .inl (List.mem_append_right _ h1)
 have hm:∀g∈Y.foot,g≠Y.m→g∉[Y.m] ++X.foot:=fun g hg hne hmm=>by
  rcases List.mem_append.1 hmm with h1|h1
  ·exact hne (List.mem_singleton.1 h1)
  ·exact hn g hg h1
 have aps:=h.apart.s;have am:=h.apart.m;refine⟨⟨k.acc.dm,by rw[e];exact h.box.chg c (hm _ (Yw.aj.2 (.inl rfl)) (fun e=>aps (by rw[e];exact List.mem_cons_self))),by rw[e];exact k.man,k.row,fun j hj a ha=>?_,by rw[e];exact h.log.chg c (hm _ (Yw.aj.2 (.inr (.inr (.inl rfl)))) (fun e=>am (by rw[←e];exact List.mem_cons_self))),h.mem.chg c (fun g hg=>hm g (Yw.aj.2 ?_) (fun e=>am (by rw[←e];exact List.mem_cons_of_mem _ hg))),h.its,h.tabs.step hc2 hf2,h.st.step hc2 hf2,⟨fun g hg hmm=>?_,aps,am,h.apart.g⟩,h.ng⟩,hc2,hf2⟩
 ·rcases hP with rfl|hP
  ·refine h.pout j ?_ a ha
   have l1:=k.row.row.len;have l2:=h.row.row.len;rw[l2,←l1];exact hj
  ·intro hmm
   have:=h.ylt _ hmm;have:=hP a ha;omega
 ·rcases List.mem_cons.1 hg with rfl|hg
  ·exact .inr (.inr (.inr (.inl rfl)))
  ·exact .inr (.inr (.inr (.inr hg)))
 ·rcases hf g hmm with h1|h1
  ·exact hn g hg h1
  ·have:=h.ylt g hg
   omega
theorem SvAt.sbox (h:SvAt w X S Y V) (c:Chg [Y.s] w w1) (hx:BoxO w1 153 Y.s (Y1.cells X.d V1)) (e1:Y1={ Y with A:=Y1.A }) (e2:V1={ V with only:=V1.only,st:=V1.st }) (hs:gv1 (XY X Y) w1 fun w=>Its 0 w Y1.A.a Y1.A.n Y1.A.c V1.st):SvAt w1 X S Y1 V1∧Chg (XY X Y) w w1:=by
 have hc2:Chg (XY X Y) w w1:=c.mono fun g hg=>.inl (by
  rw[List.mem_singleton.1 hg];exact List.mem_append_right _ (Yw.aj.2 (.inl rfl)))
 have hm:∀g∈Y.m::Y.g::Y.mm::skF Y.L Y.ns,g∉[Y.s]:=fun g hg hmm=>h.apart.s (by rw[←List.mem_singleton.1 hmm];exact hg);obtain⟨A1,ho,hs1,hv⟩:∃A1:Sl,∃b:Bool,∃l:List It,A1=Y1.A∧b=V1.only∧l=V1.st:=⟨_,_,_,rfl,rfl,rfl⟩;obtain⟨q1,q2,q3⟩:=hv;rw[←q1]at e1;rw[←q2,←q3]at e2;subst e1 e2;refine⟨⟨h.dm.chg c (fun g hg=>by rw[List.mem_singleton.1 hg];exact⟨h.apart.x _ (Yw.aj.2 (.inl rfl)),h.ng _ (Yw.aj.2 (.inl rfl))⟩),hx,h.man.chg c (hm _ List.mem_cons_self),?_,h.pout,h.log.chg c (hm _ (List.mem_cons_of_mem _ List.mem_cons_self)),h.mem.chg c (fun g hg=>hm _ (List.mem_cons_of_mem _ (List.mem_cons_of_mem _ hg))),h.its,h.tabs.step hc2 (fun g hg=>.inl hg),hs,⟨h.apart.x,h.apart.s,h.apart.m,h.apart.g⟩,h.ng⟩,hc2⟩;exact⟨(yj c h.row.row (Nat.le_refl _) (fun j hj a ha hmm=>h.pout j hj a ha (by rw[List.mem_singleton.1 hmm];exact Yw.aj.2 (.inl rfl)))).up c.size,h.row.nc,h.row.cm,h.row.nb,h.row.away⟩
end
section
open Go Go.RowKit Go.Lib
theorem mx4 (K:Nat) (hF:∀args w,(callFunc K args).run Tryz.prog w=.ok (.enter K args) w) (cap:Array Value) (P:List UInt8→Bool) (A:Option Addr) (n c:Nat) (l:List (List UInt8)) (w:World) (hn:n≤1000000) (hr:Row w.heap.size w A n 1 (l.map Go.Proofs.encStr))
  (hK:∀x w1,x∈l→Below w.heap.size w w1→Calls Tryz.prog K (#[.string (str x)] ++cap) w1 fun e w'=>e=.returned (.bool (P x))∧Below w1.heap.size w1 w'):
  Calls Tryz.prog 224 #[.slice A n c,.func (.func K) #[] cap] w fun e w'=>e=.returned (.int .i64 (fidx P l))∧Below w.heap.size w w':=by
 have hnn:n=l.length:=by
  have:=hr.len;simp at this;omega
 have HK:=Lib.hid hK;have HF:=Lib.hid hF;have HNN:=Lib.hid hnn;clear hK hF hnn;go_enter Tryz.func224,Tryz.ntmps224;go_wp2
 go_loopw [8] (fun i wr=>∃k:Nat,k≤n∧i=.int .i64 (k:Int)∧Hid ((l.take k).any P=false)∧Below w.heap.size w wr) (fun i _=>n - (intOf i).toNat)
 case atStart=>exact⟨0,Nat.zero_le _,rfl,Lib.hid rfl,Below.refl _ _⟩
 case round=>
  obtain⟨k,hk,rfl,hb,hbl⟩:=hrel
  by_cases hlt:k < n
  ·obtain⟨a,hl,rfl,hbk,c0⟩:=(hr.below hbl).enc hlt
   have ht:=kw1 (P:=P) hl;have hs:=fun h1=>fy1 (P:=P) hl hb.out h1;have hc:=HK.out l[k] wr (List.getElem_mem hl) hbl;generalize l[k]=f at *;have HT:=Lib.hid ht;have HS:=Lib.hid hs;clear ht hs hl;generalize hp:P f=p at hc;have HP:=Lib.hid hp;clear hp;go_wp2_with fail;rw[HF.out,Oper.upon_enter];refine hc.mono ?_;rintro e w1 ⟨rfl,hb1⟩
   cases p with
   |true=>
    go_wp2;go_ret;exact⟨tw1 (HS.out HP.out).symm,az hbl hb1⟩
   |false=>
    go_wp2;go_roundw
    case rel=>exact⟨k+1,by omega,by go_num,Lib.hid (by rw[HT.out,hb.out,HP.out];rfl),az hbl hb1⟩
    case measure=>simp[intOf];omega
  ·have hall:fidx P l=-1:=cx1 (by
    have hb':=hb.out
    rwa [List.take_of_length_le (by have:=HNN.out;omega)]at hb')
   have HA:=Lib.hid hall;clear hall;go_wp2;go_ret;exact⟨tw1 HA.out.symm,hbl⟩
theorem fx3 (K:Nat) (hF:∀args w,(callFunc K args).run Tryz.prog w=.ok (.enter K args) w) (cap:Array Value) (P:List UInt8→Bool) (A:Option Addr) (n c:Nat) (l:List (List UInt8)) (w:World) (hn:n≤1000000) (hr:Row w.heap.size w A n 1 (l.map Go.Proofs.encStr))
  (hK:∀x w1,x∈l→Below w.heap.size w w1→Calls Tryz.prog K (#[.string (str x)] ++cap) w1 fun e w'=>e=.returned (.bool (P x))∧Below w1.heap.size w1 w'):
  Calls Tryz.prog 148 #[.slice A n c,.func (.func K) #[] cap] w fun e w'=>e=.returned (.bool (l.any P))∧Below w.heap.size w w':=by
 have hge:=rj1 P l;have hq:=mx4 K hF cap P A n c l w hn hr hK;clear hK;generalize fidx P l=i at *;have HGE:=Lib.hid hge;clear hge;go_enter Tryz.func148,Tryz.ntmps148;go_wp2_with fail;refine hq.mono ?_;rintro e w1 ⟨rfl,hb⟩;clear hq;go_wp2;go_ret;exact⟨iw1 HGE.out,hb⟩
theorem ww1 (x l:List UInt8):((str x).toList==l)=(x==l):=by
 rw[ByteArray.toList_eq];rfl
theorem kx4 (x k:List UInt8) (hx:x.length≤1000) (hk:k.length≤1000) (g:Nat) (w:World) (h:Env w) (hc:w.cell? ⟨g,0,none⟩=some (.string (str x))):
  Calls Tryz.prog 225 #[.string (str k),.pointer (some ⟨g,0,none⟩)] w fun e w'=>e=.returned (.bool (Mn.number x k).isSome)∧Below w.heap.size w w':=by
 have hn:=qx1 (str x) (str k) (by rw[qx];omega) (by rw[qx];omega) w h;rw[rq,rq]at hn;obtain⟨o,ho⟩:∃o,o=Mn.number x k:=⟨_,rfl⟩;rw[←ho]at hn ⊢;have HN:=Lib.hid hn;clear hn ho h;unfold numV at HN
 cases o<;>
 ·simp only at HN
  go_enter Tryz.func225,Tryz.ntmps225;go_wp2_with fail;refine HN.out.mono ?_;rintro e w1 ⟨rfl,hb⟩;go_wp2;go_ret;exact⟨rfl,hb⟩
theorem bx2 (x:List UInt8) (hx:x.length≤1000) (w:World) (h:Env w):
  Calls Tryz.prog 150 #[.string (str x)] w fun e w'=>e=.returned (.bool (St.aq1 x))∧Below w.heap.size w w':=by
 have e1:((str x).toList==[99,117,114,114,101,110,116])=(x==Mw.kCur):=ww1 x Mw.kCur;have e2:((str x).toList==[99,117,114,114,101,110,116,46,116,109,112])=(x==Mw.gq):=ww1 x Mw.gq;have hR:St.aq1 x=((x==Mw.kCur||x==Mw.gq)||[Mn.kLog,Mn.kTab,Mn.kMan].any fun k=>(Mn.number x k).isSome):=rfl;generalize St.aq1 x=R at *;have hV:=(Below.refl w.heap.size w).alloc (Nat.le_refl _) (.cells #[.string (str x)] 9);have hcall:∀V e,Below w.heap.size w V→V.cell? ⟨w.heap.size,0,none⟩=some (.string (str x))→BoxO V e (w.heap.size+1) [.string (str Mn.kLog),.string (str Mn.kTab),.string (str Mn.kMan)]→
   Calls Tryz.prog 148 #[.slice (some ⟨w.heap.size+1,0,none⟩) 3 3,.func (.func 225) #[] #[.pointer (some ⟨w.heap.size,0,none⟩)]] V fun e w'=>e=.returned (.bool ([Mn.kLog,Mn.kTab,Mn.kMan].any fun k=>(Mn.number x k).isSome))∧Below V.heap.size V w':=by
  intro V e hb hc hbx;have hr:Row V.heap.size V (some ⟨w.heap.size+1,0,none⟩) 3 1 ([Mn.kLog,Mn.kTab,Mn.kMan].map Go.Proofs.encStr):=⟨rfl,fun j hj=>⟨_,rfl,hbx.lt,by
   have h1:=hbx.cell j;have e0:(⟨w.heap.size+1,0,none⟩:Addr).add j=⟨w.heap.size+1,j,none⟩:=by
    simp[Addr.add];omega
   rw[e0,h1];exact List.getElem?_eq_getElem hj⟩⟩
  refine fx3 225 (fun _ _=>rfl) _ _ _ 3 3 _ V (by omega) hr ?_;intro k w1 hk hb1;have hkl:k.length≤1000:=by
   simp only[List.mem_cons,List.mem_nil_iff,or_false]at hk
   rcases hk with rfl|rfl|rfl<;>decide
  have hlt:w.heap.size < V.heap.size:=by have:=hbx.lt;omega
  exact kx4 x k hx hkl w.heap.size w1 ((h.below hb).below hb1) ((hb1.cell (p:=⟨w.heap.size,0,none⟩) hlt).trans hc)
 have HC:=Lib.hid hcall;clear hcall h
 cases hb1:(x==Mw.kCur) with
 |true=>
  rw[hb1]at e1 hR;have HR:=Lib.hid hR;clear hR e2 HC;go_enter Tryz.func150,Tryz.ntmps150;go_wp2;go_ret;exact⟨by rw[HR.out];rfl,hV⟩
 |false=>
  cases hb2:(x==Mw.gq) with
  |true=>
   rw[hb1]at e1 hR;rw[hb2]at e2 hR;have HR:=Lib.hid hR;clear hR HC;go_enter Tryz.func150,Tryz.ntmps150;go_wp2;go_ret;exact⟨by rw[HR.out];rfl,hV⟩
  |false=>
   rw[hb1]at e1 hR;rw[hb2]at e2 hR;generalize ([Mn.kLog,Mn.kTab,Mn.kMan].any fun k=>(Mn.number x k).isSome)=q at *;have HR:=Lib.hid hR;clear hR;go_enter Tryz.func150,Tryz.ntmps150;go_wp2_with fail;have hVV:=hV.alloc hV.size (.cells #[.string (str Mn.kLog),.string (str Mn.kTab),.string (str Mn.kMan)] 9);refine(HC.out _ 9 hVV (by simp) (by
    have:=BoxO.new (w.alloc (.cells #[.string (str x)] 9)) #[.string (str Mn.kLog),.string (str Mn.kTab),.string (str Mn.kMan)] 9;simpa using this)).mono ?_
   rintro e w1 ⟨rfl,hb1⟩;have hbz:=az hVV hb1;clear hVV;go_wp2;go_ret;exact⟨by rw[HR.out];rfl,hbz⟩
theorem gw4 (X:Dw) (S:Sd) (x:List UInt8) (hx:x.length≤1000) (g:Nat) (w:World) (h:Dm w X S) (hc:w.cell? ⟨g,0,none⟩=some (.pointer (some ⟨X.d,0,none⟩))):
  Calls Tryz.prog 149 #[.string (str x),.pointer (some ⟨g,0,none⟩)] w fun e w'=>e=.returned (.bool (St.aq1 x&&!St.isNone S x))∧Below w.heap.size w w':=by
 have e1:((str x).toList==[99,117,114,114,101,110,116,46,116,109,112])=(x==Mw.gq):=ww1 x Mw.gq;have e2:((str x).toList==[109,97,110,46,49])=(x==St.jx3):=ww1 x St.jx3;have e3:((str x).toList==[108,111,103,46,49])=(x==St.jk):=ww1 x St.jk;have hrd:=(Acc.start (F:=[]) h).read (str x) (by rw[qx];unfold maxLen;omega);rw[rq]at hrd;have hio:=fun W hb=>bx2 x hx W (h.env.below (w':=W) hb);have hR:(St.aq1 x&&!St.isNone S x)=(St.aq1 x&&!((x==Mw.gq||x==St.jx3)||(x==St.jk&&(S.read x).1.length==0))):=rfl;obtain⟨R,hRe⟩:∃R,R=(St.aq1 x&&!St.isNone S x):=⟨_,rfl⟩;rw[←hRe]at hR ⊢;generalize St.aq1 x=o at *;obtain⟨n,hn⟩:∃n,n=(S.read x).1.length:=⟨_,rfl⟩;rw[←hn]at hrd hR;have e4:((n:Int)==0)=(n==0):=by
  rw[Bool.eq_iff_iff];simp
 generalize (S.read x).2=er at *;have HRD:Hid (Calls Tryz.prog 25 #[.pointer (some ⟨X.d,0,none⟩),.string (str x)] w fun e w'=>∃A c,e=.returned (.tuple #[.slice A n c,.int .i64 (er:Int)])∧Below w.heap.size w w'):=Lib.hid (hrd.mono fun _ _ ⟨A,c,h1,_,h2⟩=>⟨A,c,h1,h2⟩);have HIO:=Lib.hid hio;clear hrd hio h hn hRe;generalize (x==Mw.gq)=b1 at *;generalize (x==St.jx3)=b2 at *;generalize (x==St.jk)=b3 at *;generalize (n==0)=b4 at *;have HR:=Lib.hid hR;clear hR
 cases o<;>cases b1<;>cases b2<;>cases b3<;>cases b4
 all_goals
 ·go_enter Tryz.func149,Tryz.ntmps149
  go_wp2_with fail;refine HRD.out.mono ?_;rintro e w1 ⟨A,c,rfl,hb1⟩;go_wp2_with fail;refine(HIO.out _ hb1).mono ?_;rintro e w2 ⟨rfl,hb2⟩;have hbz:=az hb1 hb2;clear hb1 hb2;go_wp2;go_ret;exact⟨by rw[HR.out];rfl,hbz⟩
theorem rz2 (X:Dw) (S:Sd) (w:World) (h:Dm w X S):
  Calls Tryz.prog 77 #[.pointer (some ⟨X.d,0,none⟩)] w fun e w'=>e=.returned (.bool (St.uy2 S))∧Below w.heap.size w w':=by
 have hV:=(Below.refl w.heap.size w).alloc (Nat.le_refl _) (.cells #[.pointer (some ⟨X.d,0,none⟩)] 23);have hp:(w.alloc (.cells #[.pointer (some ⟨X.d,0,none⟩)] 23)).cell? ⟨w.heap.size,0,none⟩=some (.pointer (some ⟨X.d,0,none⟩)):=by simp
 have hlt:w.heap.size < (w.alloc (.cells #[.pointer (some ⟨X.d,0,none⟩)] 23)).heap.size:=by simp
 obtain⟨W,hW⟩:∃W,W=w.alloc (.cells #[.pointer (some ⟨X.d,0,none⟩)] 23):=⟨_,rfl⟩;rw[←hW]at hV hp hlt;have h1:=h.below hV;have hls:=(Acc.start (F:=[]) h1).list;have hR:St.uy2 S= !(S.list.any fun s=>St.aq1 s&&!St.isNone S s):=rfl;generalize St.uy2 S=R at *;have hnl:=oz1 h.wf;have hnm:=lv1 h.wf;have HLS:=Lib.hid hls;have HR:=Lib.hid hR;have HV:=Lib.hid hW;have H1:=Lib.hid h1;have HP:=Lib.hid hp;clear hls hR h h1 hW;generalize hq:(S.list.any fun s=>St.aq1 s&&!St.isNone S s)=q at *;have HQ:=Lib.hid hq;clear hq;go_enter Tryz.func77,Tryz.ntmps77;go_wp2_with fail;rw[←HV.out];refine HLS.out.mono ?_;rintro e w1 ⟨A,c,rfl,ho,hb1⟩;have hcf:=fx3 149 (fun _ _=>rfl) #[.pointer (some ⟨w.heap.size,0,none⟩)] (fun s=>St.aq1 s&&!St.isNone S s) A S.list.length c S.list w1 (by omega) (Row.own ho) (fun x w2 hx hb2=>gw4 X S x (by have:=dw1 (hnm x hx);omega) w.heap.size w2 (H1.out.below (az hb1 hb2)) (((az hb1 hb2).cell (p:=⟨w.heap.size,0,none⟩) hlt).trans HP.out));rw[HQ.out]at hcf;have HCF:=Lib.hid hcf;clear hcf ho;go_wp2_with fail;refine HCF.out.mono ?_;rintro e w2 ⟨rfl,hb2⟩;have hbz:=az hV (az hb1 hb2);clear hb1 hb2;go_wp2;go_ret;exact⟨by rw[HR.out];rfl,hbz⟩
end
section
open Go Go.RowKit Go.Lib Go.Shelf
variable {w w1 w2:World} {X X1 X2:Dw} {S S1 S2:Sd} {Y Y1 Y2:Yw} {V V1 V2:Sv}
theorem Gw.ww3 (d:Sd) (M:Gs) (nm:List UInt8):(Gw.rewrite d M nm).2.1.v=M.v:=by
 unfold Gw.rewrite Gw.tmp Gw.hd Gw.sd1 Gw.ren Gw.fin
 repeat' split
 all_goals rfl
theorem yw1 (S:Sd):∀(l:List (List UInt8)),(∀s∈l,St.aq1 s=false)→St.wipe l S=(S,0)
 |[],_=>rfl
 |s::r,h=>by
  unfold St.wipe;rw[h s List.mem_cons_self];exact yw1 S r (fun x hx=>h x (List.mem_cons_of_mem _ hx))
def tz1 (X:Dw) (w:World) (S':Sd) (V':Sv) (e:Ending) (w':World):Prop:=∃X' Y,e=.returned (.tuple #[.pointer (some ⟨Y.s,0,none⟩),.int .i64 0])∧X'.d=X.d∧SvAt w' X' S' Y V'∧Chg X.foot w w'∧(∀g∈XY X' Y,g∈X.foot∨w.heap.size≤g)
theorem aj3 (h:Dm w X S) (hno:∀s∈S.list,St.aq1 s=false) (hld:S.load≤100000000000) (S':Sd) (V':Sv) (hR:St.create S=(S',some V',0)):
  Calls Tryz.prog 78 #[.pointer (some ⟨X.d,0,none⟩)] w (tz1 X w S' V'):=by
 have hlist:=(Acc.start (F:=[]) h).list;have hnl:=oz1 h.wf;have hnm:=lv1 h.wf;have hio:∀k (hk:k < S.list.length) W,Below w.heap.size w W→Calls Tryz.prog 150 #[.string (str S.list[k])] W fun e w'=>e=.returned (.bool false)∧Below W.heap.size W w':=fun k hk W hb=>by
  have:=bx2 S.list[k] (by have:=dw1 (hnm _ (List.getElem_mem hk));omega) W (h.env.below hb);rw[hno _ (List.getElem_mem hk)]at this;exact this
 unfold St.create at hR;rw[yw1 S _ hno]at hR;simp only[ne_eq,not_true_eq_false,if_false]at hR;have hl1:=Sd.nk1 S St.jk;have hnew:∀W,Below w.heap.size w W→Calls Tryz.prog 151 #[.pointer (some ⟨X.d,0,none⟩),.string { data:=#[108,111,103,46,49] }] W (rx4 X W St.jk (S.create St.jk)):=fun W hb=>dv4 X S St.jk W (by decide) (by omega) (h.below hb);obtain⟨a,ha⟩:∃a,a=S.create St.jk:=⟨_,rfl⟩;rw[←ha]at hR hnew hl1;obtain⟨S1,er1⟩:=a;simp only at hR hl1;have h1:er1=0:=by
  apply Classical.byContradiction;intro h1;rw[if_pos h1]at hR;simp at hR
 subst h1;simp only[not_true_eq_false,if_false]at hR;have hnew2:∀W,Below w.heap.size w W→Calls Tryz.prog 151 #[.pointer (some ⟨X.d,0,none⟩),.string { data:=#[108,111,103,46,49] }] W fun e w'=>∃g X',e=.returned (.tuple #[.pointer (some ⟨g,0,none⟩),.int .i64 0])∧X'.d=X.d∧Dm w' X' S1∧Chg X.foot W w'∧(∀g∈X'.foot,g∈X.foot∨W.heap.size≤g)∧LgAt w' g X.d St.jk 0 0∧W.heap.size≤g∧g∉X'.foot:=fun W hb=>(hnew W hb).mono fun e w' ⟨X',q1,q2,q3,q4,q5⟩=>by
  rcases q5 with ⟨q,_⟩|⟨_,g,q6,q7,q8,q9⟩
  ·exact absurd rfl q
  ·exact⟨g,X',q6,q1,q2,q3,q4,q7,q8,q9⟩
 have hl2:=Sd.jy1 S1 St.jk;obtain⟨b,hb⟩:∃b,b=S1.sync St.jk:=⟨_,rfl⟩;rw[←hb]at hR hl2;obtain⟨S2,er2⟩:=b;simp only at hR hl2;have h2:er2=0:=by
  apply Classical.byContradiction;intro h2;rw[if_pos h2]at hR;simp at hR
 subst h2;simp only[not_true_eq_false,if_false]at hR;obtain⟨r,hr⟩:∃r,r=Gw.rewrite S2 St.first (Mn.name Mn.kMan 1):=⟨_,rfl⟩
 have hrv:r.2.1.v=St.first.v:=by rw[hr];exact Gw.ww3 _ _ _
 rw[←hr]at hR;have h3:r.2.2=0:=by
  apply Classical.byContradiction;intro h3;rw[if_pos h3]at hR;simp at hR
 rw[if_neg (by simp[h3])]at hR;simp only[Prod.mk.injEq,Option.some.injEq,and_true]at hR;obtain⟨hS',hV'⟩:=hR;have hbase:=h.env.base;generalize S.list=Ls at hlist hnl hnm hno hio;have HH:=Lib.hid h;have HL:=Lib.hid hlist;have HIO:=Lib.hid hio;have HNEW:=Lib.hid hnew2;have HSY:=Lib.hid hb;have HRW:=Lib.hid (And.intro hr (And.intro h3 hrv));have HV:=Lib.hid (And.intro hS' hV');have HLD:=Lib.hid (show S2.load≤1000000000000 by omega);clear h hlist hio hnew hnew2 ha hl1 hb hl2 hr hrv h3 hS' hV' hld hno hnm;go_enter Tryz.func78,Tryz.ntmps78;go_wp2_with fail
 with_reducible refine HL.out.mono ?_
 rintro e w1 ⟨A,c,rfl,ho,hb1⟩;have hrow:=Row.own ho;obtain⟨n,hn⟩:∃n,n=Ls.length:=⟨_,rfl⟩;have hn64:n≤64:=by omega
 rw[←hn]at hrow;rw[←hn];have HROW:=Lib.hid hrow;have HN:=Lib.hid hn;clear ho hrow hn HL;go_wp2
 go_loopw [14] (fun i wr=>∃k:Nat,k≤n∧i=.int .i64 (k:Int)∧Below w.heap.size w wr∧Below w1.heap.size w1 wr) (fun i _=>n - (intOf i).toNat)
 case atStart=>exact⟨0,Nat.zero_le _,rfl,hb1,Below.refl _ _⟩
 case round=>
  obtain⟨k,hk,rfl,hbw,hbl⟩:=hrel
  by_cases hlt:k < n
  ·obtain⟨p,hl,rfl,hbk,c0⟩:=(HROW.out.below hbl).enc hlt
   have hio:=HIO.out k hl wr hbw;generalize Ls[k]=s at *;have HI:=Lib.hid hio;clear hio hl;go_wp2_with fail
   with_reducible refine HI.out.mono ?_
   rintro e w2 ⟨rfl,hb2⟩;have hbz:=az hbw hb2;have hbz1:=az hbl hb2;clear hb2 HI;go_wp2;go_roundw
   case rel=>exact⟨k+1,by omega,by go_num,hbz,hbz1⟩
   case measure=>simp[intOf];omega
  ·go_wp2_with fail
   with_reducible refine(HNEW.out wr hbw).mono ?_
   rintro e w2 ⟨g,X1,rfl,e1,hd1,hc1,hf1,hlg,hgl,hgo⟩;have hgw:w.heap.size≤g:=Nat.le_trans hbw.size hgl;have hsy:=uv2 X1 S1 g St.jk 0 0 w2 (by decide) hd1 (by rw[e1];exact hlg) hgo;rw[←HSY.out]at hsy;have HS:=Lib.hid hsy;have HD:=Lib.hid hd1;have HC1:=Lib.hid (And.intro ((Chg.of_below hbw X.foot).trans hc1 (fun g hg=>.inl hg)) (fun g hg=>(hf1 g hg).imp id (Nat.le_trans hbw.size):∀g∈X1.foot,g∈X.foot∨w.heap.size≤g));have HLG:=Lib.hid (And.intro hlg (And.intro hgw hgo));have HE1:=Lib.hid e1;clear hsy hd1 hc1 hf1 hlg hgl hgo hgw e1 hbw hbl HNEW HIO HROW hb1;go_wp2_with fail
   with_reducible refine HS.out.mono ?_
   rintro e w3 ⟨rfl,X2,e2,hd2,hc2,hf2⟩;have hlg3:=HLG.out.1.chg hc2 HLG.out.2.2;have hg2:g∉X2.foot:=fun hm=>by
    rcases hf2 g hm with q|q
    ·exact HLG.out.2.2 q
    ·have:=HLG.out.1.lt
     omega
   have hc3:=HC1.out.1.trans hc2 HC1.out.2;have hf3:∀g∈X2.foot,g∈X.foot∨w.heap.size≤g:=fun g hg=>by
    rcases hf2 g hg with q|q
    ·exact HC1.out.2 g q
    ·exact .inr (Nat.le_trans HC1.out.1.size q)
   have hmn:=lw4 (w:=w3) (X:=X2) (S:=S2) ⟨1,[],0,0,0,0⟩ none 0 0 (by decide) (by omega) (by omega) (Nat.zero_le _) Row.nil_ HLD.out hd2 _ HRW.out.1 HRW.out.2.1;rw[e2,HE1.out]at hmn;unfold Vw.val at hmn;simp only[Int.natCast_zero]at hmn;have HMN:=Lib.hid hmn;have HLG3:=Lib.hid (And.intro hlg3 hg2);have HC3:=Lib.hid (And.intro hc3 hf3);have HE2:=Lib.hid (e2.trans HE1.out);clear hmn hlg3 hg2 hc3 hf3 e2 hd2 hc2 hf2 HS HD HC1;go_wp2_with fail
   with_reducible refine HMN.out.mono ?_
   rintro e w4 ⟨P,m,X3,rfl,hbn⟩;have hnw:=sq2 w4;have HNW:=Lib.hid hnw;have HBN:=Lib.hid hbn;clear hnw hbn HMN;go_wp2_with fail
   with_reducible refine HNW.out.mono ?_
   rintro e w5 ⟨mm,L,ns,rfl,hmm,hits,hb5,hlow⟩;have hfin:tz1 X w S' V' (.returned (.tuple #[.pointer (some ⟨w5.heap.size,0,none⟩),.int .i64 0])) (w5.alloc (.cells #[.pointer (some ⟨X.d,0,none⟩),.pointer (some ⟨m,0,none⟩),.pointer (some ⟨g,0,none⟩),.pointer (some ⟨mm,0,none⟩),.slice none 0 0,.slice none 0 0,.int .i64 0,.int .u32 0,.int .i32 0,.int .u32 0,.bool false] 153)):=by
    obtain⟨hS',hV'⟩:=HV.out;subst hS' hV';have bn:=HBN.out;have hbA:=(Below.refl w5.heap.size w5).alloc (Nat.le_refl _) (.cells #[.pointer (some ⟨X.d,0,none⟩),.pointer (some ⟨m,0,none⟩),.pointer (some ⟨g,0,none⟩),.pointer (some ⟨mm,0,none⟩),.slice none 0 0,.slice none 0 0,.int .i64 0,.int .u32 0,.int .i32 0,.int .u32 0,.bool false] 153);have hbx:=BoxO.new w5 #[.pointer (some ⟨X.d,0,none⟩),.pointer (some ⟨m,0,none⟩),.pointer (some ⟨g,0,none⟩),.pointer (some ⟨mm,0,none⟩),.slice none 0 0,.slice none 0 0,.int .i64 0,.int .u32 0,.int .i32 0,.int .u32 0,.bool false] 153;have hb45:=az hb5 hbA;have z3:w3.heap.size≤w4.heap.size:=bn.c.size;have z4:=hb5.size;have zg:=HLG3.out.1.lt;have zm:=bn.new;have zm4:=bn.man.lt;have zl:∀g∈mm::skF L ns,w4.heap.size≤g∧g < w5.heap.size:=fun g hg=>⟨hlow g hg,hmm.lt g hg⟩;have zx:∀g∈X3.foot,g < w4.heap.size:=bn.dm.dk.lt;have zw:w.heap.size≤w3.heap.size:=HC3.out.1.size;have hg3:g∉X3.foot:=fun hm=>by
     rcases bn.f g hm with q|q
     ·exact HLG3.out.2 q
     ·omega
    have e3:X3.d=X.d:=bn.e.trans HE2.out;refine⟨X3,⟨w5.heap.size,m,g,mm,L,ns,P,⟨none,0,0⟩,⟨none,0,0⟩,[]⟩,rfl,e3,⟨bn.dm.below hb45,by rw[e3];exact hbx,by rw[bn.e];exact bn.man.below hb45,bn.row.below hb45,fun j hj a ha=>?_,by rw[e3];exact(HLG3.out.1.chg bn.c HLG3.out.2).below hb45,hmm.below hbA,hits,fun _ _=>⟨rfl,Row.nil_,Nat.le_refl _,Nat.zero_le _,fun _=>⟨rfl,rfl⟩,fun p hp=>by cases hp⟩,fun _ _=>Its.nil 0 _,⟨?_,?_,?_,fun hm=>?_⟩,?_⟩,?_,?_⟩
    ·exfalso
     have q:=HRW.out.2.2;change j < (dw r.2.1.v.files).length at hj;rw[q]at hj;exact Nat.not_lt_zero _ hj
    ·intro x hx hm
     have:=zx x hm
     rcases Yw.aj.1 hx with q|q|q|q|q
     ·have:x=w5.heap.size:=q
      omega
     ·exact bn.away (by rw[←show x=m from q];exact hm)
     ·exact hg3 (by rw[←show x=g from q];exact hm)
     ·have:=zl x (by rw[show x=mm from q];exact List.mem_cons_self)
      omega
     ·have:=zl x (List.mem_cons_of_mem _ q)
      omega
    ·intro hm
     rcases List.mem_cons.1 hm with q|q
     ·have:w5.heap.size=m:=q
      omega
     ·rcases List.mem_cons.1 q with q|q
      ·have:w5.heap.size=g:=q
       omega
      ·have:=zl _ q
       simp only at this;omega
    ·intro hm
     rcases List.mem_cons.1 hm with q|q
     ·have:m=g:=q
      omega
     ·have:=zl _ q
      simp only at this;omega
    ·have:=zl _ hm
     simp only at this;omega
    ·intro x hx
     rcases Yw.aj.1 hx with q|q|q|q|q
     ·have:x=w5.heap.size:=q
      omega
     ·have:x=m:=q
      omega
     ·have:x=g:=q
      have:=HLG.out.2.1;omega
     ·have:=zl x (by rw[show x=mm from q];exact List.mem_cons_self)
      omega
     ·have:=zl x (List.mem_cons_of_mem _ q)
      omega
    ·exact(HC3.out.1.trans bn.c HC3.out.2).trans (Chg.of_below hb45 []) (fun g hg=>by cases hg)
    ·intro x hx
     rcases List.mem_append.1 hx with q|q
     ·rcases bn.f x q with q|q
      ·exact HC3.out.2 x q
      ·exact .inr (by omega)
     ·right
      rcases Yw.aj.1 q with q|q|q|q|q
      ·have:x=w5.heap.size:=q
       omega
      ·have:x=m:=q
       omega
      ·have:x=g:=q
       have:=HLG.out.2.1;omega
      ·have:=zl x (by rw[show x=mm from q];exact List.mem_cons_self)
       omega
      ·have:=zl x (List.mem_cons_of_mem _ q)
       omega
   have HF:=Lib.hid hfin;clear hfin hmm hits hb5 hlow HNW HBN;go_wp2;refine bodyPost_ret (v:=.tuple #[.pointer (some ⟨w5.heap.size,0,none⟩),.int .i64 0]) (by simp[results,go_sem]) rfl HF.out
end
section
open Go
open Calm (py1)
theorem lk3 {s:List UInt8} (h:St.aq1 s=false):Mn.number s Mn.kMan=none∧Mn.number s Mn.kLog=none∧s≠Mw.kCur∧s≠Mw.gq:=by
 unfold St.aq1 at h;simp only[Bool.or_eq_false_iff,List.any_cons,List.any_nil,Bool.or_false]at h;obtain⟨⟨h1,h2⟩,h3,h4,h5⟩:=h;refine⟨by cases hq:Mn.number s Mn.kMan<;>simp[hq]at h5 ⊢,by cases hq:Mn.number s Mn.kLog<;>simp[hq]at h3 ⊢,by simpa using h1,by simpa using h2⟩
namespace Gw
open Mn
open Mw (kCur gq headB sweep man dx1 yx1 ek1 iq1 dv1 qy ay1 dq1 ky1)
theorem jz2 {d:Sd} {M:Gs} (hv:M.v.ok=true) {k B:Nat} {K:List (List UInt8)} (h:Calm d) (hk1:1≤k) (hk2:k≤1073741824) (hs0:Small d K B) (hK:K.length≤40) (ht0:cont d gq=none) (hnone:cont d (man k)=none)
  (hB:2100≤B) (hq:(K.length+4)*B≤d.quota):
  ∃d6,Calm d6∧cont d6=upd (upd (upd (upd (cont d) (man k) (some (M.v.whole.rec_))) gq (some (headB k))) kCur (some (headB k))) gq none∧d6.quota=d.quota∧rewrite d M (man k)=(sweep (man k) d6.list d6,{ M with name:=man k,count:=1 },0):=by
 have hr:=Ed.rq1 (Vw.kj1 hv);have hh:=ax2 k;have hnum:(number (man k) kMan).getD 0=(k:Int):=by rw[ay1 hk1 hk2];rfl
 obtain⟨Q,hQ⟩:∃Q,Q=K.length *B:=⟨_,rfl⟩;have e1:(K.length+4)*B=Q+4 *B:=by rw[Nat.add_mul,←hQ]
 have e2:(K.length+1)*B=Q+B:=by rw[Nat.add_mul,←hQ,Nat.one_mul]
 have e3:(K.length+1+1)*B=Q+2 *B:=by rw[Nat.add_assoc,Nat.add_mul,←hQ]
 obtain⟨a1,a2,a3,a4⟩:=h.write (dx1 hk1 hk2) hnone hs0 (by omega) M.v.whole.rec_ (by omega) (by omega);have htk:gq≠man k:=(ek1 hk1 hk2).symm;have ht1:cont (d.write (man k) M.v.whole.rec_).1 gq=none:=by rw[a3,upd,if_neg htk];exact ht0
 have hrd:=a2.vv3 qy ht1;have hs1:Small (d.write (man k) M.v.whole.rec_).1 (man k::K) B:=⟨fun s x hx=>by
  rw[a3,upd]at hx;split at hx
  ·subst_vars;simp
  ·exact List.mem_cons_of_mem _ (hs0.names s x hx),fun s x hx=>by
  rw[a3,upd]at hx;split at hx
  ·injection hx with hx;subst hx;omega
  ·exact hs0.len s x hx⟩
 obtain⟨b1,b2,b3,b4⟩:=a2.write qy ht1 hs1 (by simp;omega) (headB k) (by omega) (by rw[List.length_cons];omega);obtain⟨e1,e2,e3,e4⟩:=b2.ax;have htm:cont ((d.write (man k) M.v.whole.rec_).1.write gq (headB k)).1.ax.1 gq=some (headB k):=by rw[e3,b3,upd,if_pos rfl]
 obtain⟨f1,f2,f3,f4⟩:=e2.rename qy dv1 iq1.symm htm;obtain⟨g1,g2,g3,g4⟩:=f2.ax;refine⟨(((((d.write (man k) M.v.whole.rec_).1.write gq (headB k)).1.ax).1.rename gq kCur).1.ax).1,g2,?_,?_,?_⟩
 ·rw[g3,f3,e3,b3,a3]
 ·rw[g4,f4,e4,b4,a4]
 ·unfold rewrite
  rw[if_neg (by simp[a1]),tmp,if_neg (by rw[hrd];simp),hd,hnum,if_neg (by simp[b1]),sd1,if_neg (by simp[e1]),ren,if_neg (by simp[f1]),fin,if_neg (by simp[g1])]
end Gw
theorem nj2 {d:Sd} {K:List (List UInt8)} {B:Nat} (h:Calm d) (hs0:Small d K B) (hK:K.length≤30) (hno:∀s x,cont d s=some x→St.aq1 s=false) (hB:2100≤B) (hq:(K.length+5)*B≤d.quota):
  ∃d6,St.create d=(d6,some ⟨{ St.first with name:=Mw.man 1,count:=1 },St.jk,0,0,[],[],[],false⟩,0)∧Calm d6∧d6.quota=d.quota∧
   cont d6=upd (upd (upd (upd (upd (cont d) St.jk (some [])) (Mw.man 1) (some (St.first.v.whole.rec_))) Mw.gq (some (Mw.headB 1))) Mw.kCur (some (Mw.headB 1))) Mw.gq none:=by
 have own1:St.aq1 St.jk=true:=by decide+kernel
 have own2:St.aq1 (Mw.man 1)=true:=by decide+kernel
 have own3:St.aq1 Mw.gq=true:=by decide+kernel
 have hnone:∀s,St.aq1 s=true→cont d s=none:=fun s hs=>by
  cases hc:cont d s with
  |none=>rfl
  |some x=>rw[hno s x hc]at hs;cases hs
 have hw:=yw1 d d.list (fun s hs=>by
  obtain⟨x,hx⟩:=h.py1.1 hs;exact hno s x hx)
 obtain⟨ln,lu⟩:=h.zy hs0;obtain⟨a1,a2,a3,a4⟩:=h.create (s:=St.jk) (by decide+kernel) (hnone _ own1) (by omega);obtain⟨b1,b2,b3,b4⟩:=a2.sync (s:=St.jk) (by decide+kernel) (x:=[]) (by rw[a3,upd,if_pos rfl]);have hs1:Small ((d.create St.jk).1.sync St.jk).1 (St.jk::K) B:=⟨fun s x hx=>by
  rw[b3,a3,upd]at hx;split at hx
  ·subst_vars;simp
  ·exact List.mem_cons_of_mem _ (hs0.names s x hx),fun s x hx=>by
  rw[b3,a3,upd]at hx;split at hx
  ·injection hx with hx;subst hx;simp
  ·exact hs0.len s x hx⟩
 have ne1:Mw.gq≠St.jk:=by decide
 have ne2:Mw.man 1≠St.jk:=by decide+kernel
 obtain⟨d6,c1,c2,c3,c4⟩:=Gw.jz2 (M:=St.first) (by decide+kernel) (k:=1) b2 (by omega) (by omega) hs1 (by rw[List.length_cons];omega) (by rw[b3,a3,upd,if_neg ne1];exact hnone _ own3) (by rw[b3,a3,upd,if_neg ne2];exact hnone _ own2) hB (by rw[b4,a4,List.length_cons];exact hq);have hsw:Mw.sweep (Mw.man 1) d6.list d6=d6:=Mw.ky1 _ _ _ (fun s hs hn=>by
  obtain⟨x,hx⟩:=c1.py1.1 hs;rw[c2,b3,a3]at hx;unfold upd at hx;split at hx
  ·cases hx
  ·split at hx
   ·rename_i h2
    rw[h2,Mw.dq1]at hn
    cases hn
   ·split at hx
    ·assumption
    ·split at hx
     ·rename_i h2
      rw[h2,show Mn.number St.jk Mn.kMan=none from by decide+kernel]at hn
      cases hn
     ·rw[(lk3 (hno s x hx)).1]at hn
      cases hn)
 refine⟨d6,?_,c1,by rw[c3,b4,a4],by rw[c2,b3,a3];rfl⟩;unfold St.create;rw[hw];simp only[ne_eq,not_true_eq_false,if_false,a1,b1];rw[show Mn.name Mn.kMan 1=Mw.man 1 from rfl,c4,hsw];simp
end
section
open Go Go.RowKit
namespace Sonce
open Once
theorem slow_any (b:Nat) (pl:Addr) (hpb:¬b=pl.block) (x3:Value) (w:World) (hp:w.cell? pl=some (.pointer (some ⟨b,0,none⟩)))
  (h0:w.cell? ⟨b,7,none⟩=some (.int .u32 0)) (h1:w.cell? ⟨b,8,none⟩=some (.int .i32 0)) (h3:w.cell? ⟨b,10,none⟩=some x3)
  (f0:w.frozen? ⟨b,7,none⟩=false) (f1:w.frozen? ⟨b,8,none⟩=false) (f3:w.frozen? ⟨b,10,none⟩=false):
  Calls Tryz.prog 267 #[.pointer (some ⟨b,7,none⟩),.func (.func 215) #[] #[.pointer (some pl)]] w fun e w'=>e=.returned (.tuple #[])∧
   w'=(((w.setCell ⟨b,8,none⟩ (.int .i32 1)).setCell ⟨b,10,none⟩ (.bool true)).drew.setCell ⟨b,7,none⟩ (.int .u32 1)).setCell ⟨b,8,none⟩ (.int .i32 0):=by
 have hl:=run_call_load (P:=Tryz.prog) Tryz.func315 (by kernel_rfl) (by kernel_rfl) (by kernel_rfl) .u32 (by kernel_rfl) (w:=w.setCell ⟨b,8,none⟩ (.int .i32 1)) (a:=⟨b,7,none⟩) (x:=0) ((World.cell?_setCell_other _ ⟨b,8,none⟩ ⟨b,7,none⟩ _ (by simp)).trans h0);have hp1:(w.setCell ⟨b,8,none⟩ (.int .i32 1)).cell? pl=some (.pointer (some ⟨b,0,none⟩)):=(World.cell?_setCell_other _ ⟨b,8,none⟩ pl _ (fun h=>hpb (by rw[←h]))).trans hp;have h31:(w.setCell ⟨b,8,none⟩ (.int .i32 1)).cell? ⟨b,10,none⟩=some x3:=(World.cell?_setCell_other _ ⟨b,8,none⟩ ⟨b,10,none⟩ _ (by simp)).trans h3;have hnot:∀(x:Bool) (w:World),(Op.unary .not (.bool x)).run Tryz.prog w=.ok (.bool (!x)) w:=fun _ _=>rfl;go_enter_defers Tryz.func267,Tryz.ntmps267;go_wp2_with (go_at_call 316;refine(lock_free ⟨b,8,none⟩ _ (by go_simp) (by go_simp)).mono ?_;rintro e w' ⟨rfl,rfl⟩);go_wp2
 go_end0
 go_wp2;refine leaves_cons (f:=318) (args:=#[.pointer (some ⟨b,7,none⟩),.bool true]) (by simp) (by simp[go_sem]) ?_;refine(store_deferred ⟨b,7,none⟩ (.int .u32 0) .returning _ ?_ (by simp[f0])).mono ?_
 ·exact(World.cell?_setCell_other _ ⟨b,10,none⟩ ⟨b,7,none⟩ _ (by simp)).trans ((World.cell?_setCell_other _ ⟨b,8,none⟩ ⟨b,7,none⟩ _ (by simp)).trans h0)
 rintro e u' w'' ⟨rfl,rfl,rfl⟩;refine leaves_cons (f:=317) (args:=#[.pointer (some ⟨b,8,none⟩)]) (by simp[settle]) (by simp[go_sem]) ?_;refine(unlock_deferred ⟨b,8,none⟩ _ _ ?_ (by simp[f1])).mono ?_
 ·refine(World.cell?_setCell_other _ ⟨b,7,none⟩ ⟨b,8,none⟩ _ (by simp)).trans ?_
  rw[World.cell?_drew];exact(World.cell?_setCell_other _ ⟨b,10,none⟩ ⟨b,8,none⟩ _ (by simp)).trans (World.cell?_setCell_same w _ _ h1)
 rintro e u' w'' ⟨rfl,rfl,rfl⟩;simp[Leaves,settle,results,Tryz.results267]
theorem do_first (b:Nat) (pl:Addr) (hpb:¬b=pl.block) (x3:Value) (w:World) (hp:w.cell? pl=some (.pointer (some ⟨b,0,none⟩)))
  (h0:w.cell? ⟨b,7,none⟩=some (.int .u32 0)) (h1:w.cell? ⟨b,8,none⟩=some (.int .i32 0)) (h3:w.cell? ⟨b,10,none⟩=some x3)
  (f0:w.frozen? ⟨b,7,none⟩=false) (f1:w.frozen? ⟨b,8,none⟩=false) (f3:w.frozen? ⟨b,10,none⟩=false):
  Calls Tryz.prog 214 #[.pointer (some ⟨b,7,none⟩),.func (.func 215) #[] #[.pointer (some pl)]] w fun e w'=>e=.returned (.tuple #[])∧w'=((((w.setCell ⟨b,8,none⟩ (.int .i32 1)).setCell ⟨b,10,none⟩ (.bool true)).drew.setCell ⟨b,7,none⟩ (.int .u32 1)).setCell ⟨b,8,none⟩ (.int .i32 0)):=by
 have hl:=run_call_load (P:=Tryz.prog) Tryz.func315 (by kernel_rfl) (by kernel_rfl) (by kernel_rfl) .u32 (by kernel_rfl) h0;have hnot:∀(x:Bool) (w:World),(Op.unary .not (.bool x)).run Tryz.prog w=.ok (.bool (!x)) w:=fun _ _=>rfl;go_enter Tryz.func214,Tryz.ntmps214;go_wp2_with (first|(go_at_call 267;refine(slow_any b pl hpb x3 _ hp h0 h1 h3 f0 f1 f3).mono ?_;rintro e w' ⟨rfl,rfl⟩)|(go_at_call 266;go_in))
 go_end0
 exact⟨rfl,rfl⟩
end Sonce
end
section
open Go Go.RowKit Go.Lib Go.Shelf
variable {w w1 w2:World} {X X1 X2:Dw} {S S1 S2:Sd} {Y Y1 Y2:Yw} {V V1 V2:Sv}
theorem gv2 (h:SvAt w X S Y V) (er:Nat):
  Calls Tryz.prog 139 #[.pointer (some ⟨Y.s,0,none⟩),.int .i64 (er:Int)] w fun e w'=>e=.returned (.int .i64 (er:Int))∧SvAt w' X S Y { V with only:=true }∧Chg (XY X Y) w w':=by
 have hbA:=(Below.refl w.heap.size w).alloc (Nat.le_refl _) (.cells #[.pointer (some ⟨Y.s,0,none⟩)] 51);have hlt:=h.box.lt;have h1:=h.below hbA;have hp:(w.alloc (.cells #[.pointer (some ⟨Y.s,0,none⟩)] 51)).cell? ⟨w.heap.size,0,none⟩=some (.pointer (some ⟨Y.s,0,none⟩)):=by simp
 obtain⟨W,hW⟩:∃W,W=w.alloc (.cells #[.pointer (some ⟨Y.s,0,none⟩)] 51):=⟨_,rfl⟩;rw[←hW]at hbA h1 hp;have HV:=Lib.hid hW;clear hW;have c7:=h1.box.cell 7;have c8:=h1.box.cell 8;have c10:=h1.box.cell 10;simp only[Yw.cells,gE0,gE1]at c7 c8 c10;have hmf:∀(fn:Fn) (first cap:Array Value) (w:World),(Instr.makeFunc fn first cap).run Tryz.prog w=.ok (.func fn first cap) w:=fun _ _ _ _=>rfl
 cases hb:V.only with
 |false=>
  rw[hb]at c7 c10;simp only[Bool.false_eq_true,if_false]at c7;have hdo:=Sonce.do_first Y.s ⟨w.heap.size,0,none⟩ (by simp;omega) _ W hp c7 c8 c10 (h1.box.free 7) (h1.box.free 8) (h1.box.free 10);have hbx:=((((h1.box.store 8 (.int .i32 1)).store 10 (.bool true)).drew.store 7 (.int .u32 1)).store 8 (.int .i32 0));have hcc:Chg [Y.s] W ((((W.setCell ⟨Y.s,8,none⟩ (.int .i32 1)).setCell ⟨Y.s,10,none⟩ (.bool true)).drew.setCell ⟨Y.s,7,none⟩ (.int .u32 1)).setCell ⟨Y.s,8,none⟩ (.int .i32 0)):=(((((Chg.refl [Y.s] W).setCell _ (.inl (by simp))).setCell _ (.inl (by simp))).drew).setCell _ (.inl (by simp))).setCell _ (.inl (by simp));have hfin:=h1.sbox (Y1:=Y) (V1:={ V with only:=true }) hcc hbx rfl rfl (h1.st.step (hcc.mono fun g hg=>.inl (by rw[List.mem_singleton.1 hg];exact List.mem_append_right _ (Yw.aj.2 (.inl rfl)))) (fun g hg=>.inl hg));have HR:=Lib.hid (And.intro hfin.1 ((Chg.of_below hbA (XY X Y)).trans hfin.2 (fun g hg=>.inl hg)));clear hfin hcc hbx hb h h1 hbA c10;go_enter Tryz.func139,Tryz.ntmps139;go_wp2_with fail;rw[←HV.out];refine hdo.mono ?_;rintro e w2 ⟨rfl,rfl⟩;go_wp2;go_ret;exact⟨rfl,HR.out⟩
 |true=>
  rw[hb]at c7;simp only[if_true]at c7;have hdo:=Once.do_done ⟨Y.s,7,none⟩ 1 (by omega) (.func (.func 215) #[] #[.pointer (some ⟨w.heap.size,0,none⟩)]) W c7;have e:({ V with only:=true }:Sv)=V:=by cases V;simp at hb;simp[hb]
  have HR:=Lib.hid (And.intro (show SvAt W X S Y { V with only:=true } by rw[e];exact h1) (Chg.of_below hbA (XY X Y)));clear hb h h1 hbA c10 e;go_enter Tryz.func139,Tryz.ntmps139;go_wp2_with fail;rw[←HV.out];refine hdo.mono ?_;rintro e w2 ⟨rfl,hw2⟩;obtain rfl:=hw2.symm;go_wp2;go_ret;exact⟨rfl,HR.out⟩
end
section
open Go Go.RowKit Go.Lib Go.Shelf
variable {w w1 w2:World} {X X1 X2:Dw} {S S1 S2:Sd} {Y Y1 Y2:Yw} {V V1 V2:Sv}
theorem dw3 (h:SvAt w X S Y V) (A:Option Addr) (n c:Nat) (l:List It) (hA:gv1 (XY X Y) w fun w=>Its 0 w A n c l):
  Calls Tryz.prog 88 #[.pointer (some ⟨Y.s,0,none⟩),.slice A n c] w fun e w'=>e=.returned (.tuple #[])∧SvAt w' X S { Y with A:=⟨A,n,c⟩ } { V with st:=l }∧Chg (XY X Y) w w':=by
 have c5:=h.box.cell 5;have f5:=h.box.free 5;have hb1:=h.box.store 5 (.slice A n c);have c6:=hb1.cell 6;have f6:=hb1.free 6;have hb2:=hb1.store 6 (.int .i64 (n:Int));simp only[Yw.cells,gE0,gE1,List.set]at c5 c6;have HST:=Lib.hid (mw1 Y.s 6 _ (n:Int) _ c6 f6);have hcc:Chg [Y.s] w ((w.setCell ⟨Y.s,5,none⟩ (.slice A n c)).setCell ⟨Y.s,6,none⟩ (.int .i64 (n:Int))):=((Chg.refl _ _).setCell _ (.inl (by simp))).setCell _ (.inl (by simp));have hcc2:Chg (XY X Y) w ((w.setCell ⟨Y.s,5,none⟩ (.slice A n c)).setCell ⟨Y.s,6,none⟩ (.int .i64 (n:Int))):=hcc.mono fun g hg=>.inl (by
  rw[List.mem_singleton.1 hg];exact List.mem_append_right _ (Yw.aj.2 (.inl rfl)))
 have hfin:=h.sbox (Y1:={ Y with A:=⟨A,n,c⟩ }) (V1:={ V with st:=l }) hcc hb2 rfl rfl (hA.step hcc2 (fun g hg=>.inl hg));have HF:=Lib.hid hfin;clear hfin hcc hcc2 hb2 hb1 c6 f6 hA h;go_enter Tryz.func88,Tryz.ntmps88;go_wp2_with fail;refine HST.out.mono ?_;rintro e w1 ⟨rfl,rfl⟩;go_wp2;exact bodyPost_end (v:=.tuple #[]) (by simp[results,go_sem]) rfl ⟨rfl,HF.out.1,HF.out.2⟩
theorem dw4 (A:Option Addr) (n c:Nat) (l:List It) (w:World) (hn:n≤1000000) (hr:Row w.heap.size w A n 5 (itc l)):
  Calls Tryz.prog 95 #[.slice A n c] w fun e w'=>∃A' c',e=.returned (.slice A' n c')∧w'.ownsRow w.heap.size 36 5 (.slice A' n c') n (itc l)∧Below w.heap.size w w':=by
 obtain⟨i0,hi0,hz0,hz1,hz2⟩:=info_parts az1;have HR:=Lib.hid hr;clear hr;go_enter Tryz.func95,Tryz.ntmps95;go_wp2_with (at_builtin;refine jq ?_);refine gy (uw rfl _ (.tmp 3) _ rfl w.heap.size 36 i0 _ 5 40 Tryz.underlying31 hi0 hz0 hz1 hz2 rfl (by omega) w (Below.refl _ _) (Nat.le_refl _) rfl w.heap.size A n c (itc l) rfl HR.out (fq1 l) (by unfold maxLen;omega) (by omega) ?_);intro A' c' w' h1 h2 h3 h4 h5;go_wp2;go_ret;exact⟨_,_,rfl,h1,h2⟩
theorem fk1 (h:SvAt w X S Y V) (hn:V.st.length≤1000000):
  Calls Tryz.prog 32 #[.pointer (some ⟨Y.s,0,none⟩)] w fun e w'=>∃A' c',e=.returned (.slice A' Y.A.n c')∧w'.ownsRow w.heap.size 36 5 (.slice A' Y.A.n c') Y.A.n (itc V.st)∧Below w.heap.size w w':=by
 have c5:=h.box.cell 5;simp only[Yw.cells,gE0,gE1]at c5;have HS:=Lib.hid (dw4 Y.A.a Y.A.n Y.A.c V.st w (by rw[h.alen];omega) h.st.now.row);clear h;go_enter Tryz.func32,Tryz.ntmps32;go_wp2_with fail;refine HS.out.mono ?_;rintro e w1 ⟨A',c',rfl,h1,h2⟩;go_wp2;go_ret;exact⟨_,_,rfl,h1,h2⟩
end
end Go.Proofs.YthjdpplgfdihoaaGreatDoor
