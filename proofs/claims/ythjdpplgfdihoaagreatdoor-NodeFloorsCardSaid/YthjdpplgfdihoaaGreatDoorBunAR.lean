/- Texts NodJ, PlainNode, NodK, RefK, RefL, PlainRefAdd, RefM, RefT, RefS, LawN, MsgC, MsgD in one. No conditions. -/
import Derived.Test.YthjdpplgfdihoaaGreatDoorBunAA
import Derived.Test.YthjdpplgfdihoaaGreatDoorBunAQ
import Derived.Laws.StructEq
import Derived.Test.YthjdpplgfdihoaaGreatDoorBunAO
import Derived.Test.YthjdpplgfdihoaaGreatDoorBunAJ
import Derived.Test.YthjdpplgfdihoaaGreatDoorBunAP
import Derived.Test.YthjdpplgfdihoaaGreatDoorBunAI
import Derived.Test.YthjdpplgfdihoaaGreatDoorBunAE
import Derived.Lib.MinMax

set_option linter.unusedSimpArgs false
set_option linter.unusedVariables false
set_option maxRecDepth 100000
set_option maxHeartbeats 16000000
namespace Go.Proofs.YthjdpplgfdihoaaGreatDoor
section
open Go Go.RowKit Go.Lib Go.Shelf
variable {w w1 w2:World} {X X1 X2:Dw} {S S1 S2:Sd} {Y Y1 Y2:Yw} {V V1 V2:Sv} {nb now grace:Nat} {ni:Int}
def St.seal (S:Sd) (V:Sv) (f:Nat):Sd×Sv×Option (Int×Nat×List It):=
 if f < V.M.v.floor then (S,V,some (3,V.M.v.floor,[])) else
 if f=V.M.v.floor then (S,V,some (7,f,upto V.st f)) else
 if (St.setMeta S V { St.yx V with floor:=f }).2.2=0 then ((St.setMeta S V { St.yx V with floor:=f }).1,(St.setMeta S V { St.yx V with floor:=f }).2.1,some (7,f,upto V.st f)) else
 ((St.setMeta S V { St.yx V with floor:=f }).1,(St.setMeta S V { St.yx V with floor:=f }).2.1,none)
theorem bw5 (x y c a e:Nat) (w:World):(binOp .eql 47 (.agg #[.int .u64 (x:Int),.int .u64 (c:Int),.int .u64 (a:Int),.int .u64 (e:Int)]) (.agg #[.int .u64 (y:Int),.int .u64 (c:Int),.int .u64 (a:Int),.int .u64 (e:Int)])).run Tryz.prog w=.ok (.bool (decide (x=y))) w:=by
 have u4:=Tryz.underlying22;have a4:=Tryz.isAgg22;have z4:=Tryz.sizeOf22;have hS:Tryz.prog.underlying 47=some (.struct (Tryz.prog.fieldsOf 47)):=by kernel_rfl
 have hp:Tryz.prog.stoodInHeld 47=false:=by kernel_rfl
 rw[run_eql_struct,show (10000:Nat)=9999+1 from rfl,run_equalIn_agg w 9999 47 _ _ hS hp];simp only[Program.fieldsOf,Tryz.underlying47];go_simp
 by_cases h:x=y
 ·simp[h]
 ·simp[h]
  omega
theorem lv3 (S:Sd) (V:Sv) (m:Mt):(St.setMeta S V m).2.1.st=V.st:=by
 unfold St.setMeta;split
 ·rfl
 ·rfl
theorem tv3 (h:NdAt w X S Y V nb ni now grace) (hN:Nrm V) (frm:Int) (mi no:Nat) (A:Option Addr) (n c:Nat) (l:List It) (hg:(Mq.mk 6 frm ni mi no A n c).Good l) (hr:Row w.heap.size w A n 5 (itc l)) (h1:1≤no) (hmc:V.M.v.cert≤281474976710656∧V.M.v.at_≤281474976710656∧V.M.v.lease≤281474976710656):
  Calls Tryz.prog 15 #[.pointer (some ⟨nb,0,none⟩),.agg #[.int .i64 6,.int .i64 frm,.int .i64 ni,.int .u64 (mi:Int),.int .u64 (no:Int),.slice A n c]] w (cv1 X Y w (St.seal S V no).1 (St.seal S V no).2.1 nb ni now grace frm mi (St.seal S V no).2.2):=by
 obtain⟨R,hR⟩:∃R,R=St.seal S V no:=⟨_,rfl⟩;rw[←hR];unfold St.seal at hR;have HR:=Lib.hid hR;have HH:=Lib.hid h;have HNO:=Lib.hid hg.no;clear hR;have hb1:=(Below.refl w.heap.size w).alloc (Nat.le_refl _) (.cells #[.pointer (some ⟨nb,0,none⟩)] 25);have hb2:=hb1.alloc (by simp) (.cells #[.int .i64 6,.int .i64 frm,.int .i64 ni,.int .u64 (mi:Int),.int .u64 (no:Int),.slice A n c] 33);have hx0:=(BoxO.new w #[.pointer (some ⟨nb,0,none⟩)] 25).alloc (.cells #[.int .i64 6,.int .i64 frm,.int .i64 ni,.int .u64 (mi:Int),.int .u64 (no:Int),.slice A n c] 33);have hx1:=BoxO.new (w.alloc (.cells #[.pointer (some ⟨nb,0,none⟩)] 25)) #[.int .i64 6,.int .i64 frm,.int .i64 ni,.int .u64 (mi:Int),.int .u64 (no:Int),.slice A n c] 33;rw[World.size_alloc]at hx1;have h2:=h.below hb2;have hmf:∀(fn:Fn) (first cap:Array Value) (w:World),(Instr.makeFunc fn first cap).run Tryz.prog w=.ok (.func fn first cap) w:=fun _ _ _ _=>rfl;obtain⟨W,hW⟩:∃W,W=(w.alloc (.cells #[.pointer (some ⟨nb,0,none⟩)] 25)).alloc (.cells #[.int .i64 6,.int .i64 frm,.int .i64 ni,.int .u64 (mi:Int),.int .u64 (no:Int),.slice A n c] 33):=⟨_,rfl⟩;obtain⟨g0,hg0⟩:∃g0,g0=w.heap.size:=⟨_,rfl⟩;rw[←hW]at hb2 hx0 hx1 h2;rw[←hg0]at hx0 hx1;have hmo:=fun W' (hb:Below W.heap.size W W')=>xq2 _ l W' hg ((((hr.below hb2).up hb2.size).below hb).up hb.size);unfold Mq.val at hmo;simp only at hmo;have HMO:=Lib.hid hmo;have H2:=Lib.hid h2;have HX:=Lib.hid (And.intro hx0 hx1);have HB:=Lib.hid hb2;have HW:=Lib.hid (And.intro hW hg0);have HROW:=Lib.hid ((hr.below hb2).up hb2.size);have HL:=Lib.hid (And.intro h.at_.lt (And.intro h.box.lt h.at_.dm.env.base));have HK:=Lib.hid (fun W' (hb:Below W.heap.size W W')=>And.intro (hx0.below hb) (And.intro (hx1.below hb) (h2.below hb)));clear hmo h2 hx0 hx1 hb1 hb2 hW hg0 hr h hg;go_enter Tryz.func15,Tryz.ntmps15;go_wp2_with fail;rw[←HW.out.1,←HW.out.2];refine wp_region_held_drew (S:=fun w'=>Below W.heap.size W w') rfl (ak (Below.refl _ _)) (fun hSw=>?_);refine wpT (i:=0) (v:=?vhse0) ?hhse0 hSw ?khse0
 case hhse0=>(intro w hSw;(obtain⟨x,y,z⟩:=HK.out _ hSw;have x0:=x.cell 0;have y0:=y.cell 0;have y1:=y.cell 1;have y2:=y.cell 2;have y3:=y.cell 3;have y4:=y.cell 4;have y5:=y.cell 5;have z0:=z.box.cell 0;simp only[gE0,gE1]at x0 y0 y1 y2 y3 y4 y5 z0;clear x y z);go_simp;try (with_reducible rfl))
 go_simp;refine wpAnyH_ready (rs:=[1]) (by kernel_rfl) (by simp) ?_;refine AllReadyH.cons rfl (fun K hK=>?_) AllReadyH.nil;go_simp
 with_reducible refine(HMO.out _ hSw).mono ?_
 rintro e w3 ⟨rfl,hb3⟩;go_simp;refine hK.out _ _ (az hSw hb3) (fun hSn=>?_);clear hK K hSw;have hSw:=hSn;clear hSn;go_simp;refine wpT (i:=2) (v:=?vhse2) ?hhse2 hSw ?khse2
 case hhse2=>(intro w hSw;(obtain⟨x,y,z⟩:=HK.out _ hSw;have x0:=x.cell 0;have y0:=y.cell 0;have y1:=y.cell 1;have y2:=y.cell 2;have y3:=y.cell 3;have y4:=y.cell 4;have y5:=y.cell 5;have z0:=z.box.cell 0;simp only[gE0,gE1]at x0 y0 y1 y2 y3 y4 y5 z0;clear x y z);go_simp;try (with_reducible rfl))
 go_simp;refine wpT (i:=3) (v:=?vhse3) ?hhse3 hSw ?khse3
 case hhse3=>(intro w hSw;(obtain⟨x,y,z⟩:=HK.out _ hSw;have x0:=x.cell 0;have y0:=y.cell 0;have y1:=y.cell 1;have y2:=y.cell 2;have y3:=y.cell 3;have y4:=y.cell 4;have y5:=y.cell 5;have z0:=z.box.cell 0;simp only[gE0,gE1]at x0 y0 y1 y2 y3 y4 y5 z0;clear x y z);go_simp;try (with_reducible rfl))
 go_simp;refine wpT (i:=4) (v:=?vhse4) ?hhse4 hSw ?khse4
 case hhse4=>(intro w hSw;(obtain⟨x,y,z⟩:=HK.out _ hSw;have x0:=x.cell 0;have y0:=y.cell 0;have y1:=y.cell 1;have y2:=y.cell 2;have y3:=y.cell 3;have y4:=y.cell 4;have y5:=y.cell 5;have z0:=z.box.cell 0;simp only[gE0,gE1]at x0 y0 y1 y2 y3 y4 y5 z0;clear x y z);go_simp;try (with_reducible rfl))
 go_simp;refine wpT (i:=5) (v:=?vhse5) ?hhse5 hSw ?khse5
 case hhse5=>(intro w hSw;(obtain⟨x,y,z⟩:=HK.out _ hSw;have x0:=x.cell 0;have y0:=y.cell 0;have y1:=y.cell 1;have y2:=y.cell 2;have y3:=y.cell 3;have y4:=y.cell 4;have y5:=y.cell 5;have z0:=z.box.cell 0;simp only[gE0,gE1]at x0 y0 y1 y2 y3 y4 y5 z0;clear x y z);go_simp;try (with_reducible rfl))
 go_simp;refine wpT (i:=6) (v:=?vhse6) ?hhse6 hSw ?khse6
 case hhse6=>(intro w hSw;(obtain⟨x,y,z⟩:=HK.out _ hSw;have x0:=x.cell 0;have y0:=y.cell 0;have y1:=y.cell 1;have y2:=y.cell 2;have y3:=y.cell 3;have y4:=y.cell 4;have y5:=y.cell 5;have z0:=z.box.cell 0;simp only[gE0,gE1]at x0 y0 y1 y2 y3 y4 y5 z0;clear x y z);go_simp;try (with_reducible rfl))
 go_simp;refine wpT (i:=7) (v:=?vhse7) ?hhse7 hSw ?khse7
 case hhse7=>(intro w hSw;(obtain⟨x,y,z⟩:=HK.out _ hSw;have x0:=x.cell 0;have y0:=y.cell 0;have y1:=y.cell 1;have y2:=y.cell 2;have y3:=y.cell 3;have y4:=y.cell 4;have y5:=y.cell 5;have z0:=z.box.cell 0;simp only[gE0,gE1]at x0 y0 y1 y2 y3 y4 y5 z0;clear x y z);go_simp;try (with_reducible rfl))
 go_simp;refine wpT (i:=8) (v:=?vhse8) ?hhse8 hSw ?khse8
 case hhse8=>(intro w hSw;(obtain⟨x,y,z⟩:=HK.out _ hSw;have x0:=x.cell 0;have y0:=y.cell 0;have y1:=y.cell 1;have y2:=y.cell 2;have y3:=y.cell 3;have y4:=y.cell 4;have y5:=y.cell 5;have z0:=z.box.cell 0;simp only[gE0,gE1]at x0 y0 y1 y2 y3 y4 y5 z0;clear x y z);go_simp;try (with_reducible rfl))
 go_simp;refine wpT (i:=9) (v:=?vhse9) ?hhse9 hSw ?khse9
 case hhse9=>(intro w hSw;(obtain⟨x,y,z⟩:=HK.out _ hSw;have x0:=x.cell 0;have y0:=y.cell 0;have y1:=y.cell 1;have y2:=y.cell 2;have y3:=y.cell 3;have y4:=y.cell 4;have y5:=y.cell 5;have z0:=z.box.cell 0;simp only[gE0,gE1]at x0 y0 y1 y2 y3 y4 y5 z0;clear x y z);go_simp;try (with_reducible rfl))
 go_simp;refine wpT (i:=10) (v:=?vhse10) ?hhse10 hSw ?khse10
 case hhse10=>(intro w hSw;(obtain⟨x,y,z⟩:=HK.out _ hSw;have x0:=x.cell 0;have y0:=y.cell 0;have y1:=y.cell 1;have y2:=y.cell 2;have y3:=y.cell 3;have y4:=y.cell 4;have y5:=y.cell 5;have z0:=z.box.cell 0;simp only[gE0,gE1]at x0 y0 y1 y2 y3 y4 y5 z0;clear x y z);go_simp;try (with_reducible rfl))
 go_simp;refine wpT (i:=11) (v:=?vhse11) ?hhse11 hSw ?khse11
 case hhse11=>(intro w hSw;(obtain⟨x,y,z⟩:=HK.out _ hSw;have x0:=x.cell 0;have y0:=y.cell 0;have y1:=y.cell 1;have y2:=y.cell 2;have y3:=y.cell 3;have y4:=y.cell 4;have y5:=y.cell 5;have z0:=z.box.cell 0;simp only[gE0,gE1]at x0 y0 y1 y2 y3 y4 y5 z0;clear x y z);go_simp;try (with_reducible rfl))
 go_simp;refine wpAnyH_done (by kernel_rfl) ?_ _;have hb4:=az (ak (Below.refl W.heap.size W)) hb3;clear hSw hb3 HMO;obtain⟨x,y,z⟩:=HK.out _ hb4;have x0:=x.cell 0;have z1:=z.box.cell 1;simp only[gE0,gE1]at x0 z1;have HME:=Lib.hid (dz1 z.at_ (by have:=hN.files;omega));have HB4:=Lib.hid hb4;clear x y z hb4;go_wp2_with fail
 with_reducible refine HME.out.mono ?_
 rintro e w4 ⟨rfl,hb5⟩;obtain⟨mt,hmt⟩:∃mt,mt=St.yx V:=⟨_,rfl⟩;have HB5:=Lib.hid (az HB4.out hb5);have hb6:=az HB5.out ((Below.refl w4.heap.size w4).alloc (Nat.le_refl _) (.cells #[.int .u64 (mt.floor:Int),.int .u64 (mt.cert:Int),.int .u64 (mt.at_:Int),.int .u64 (mt.lease:Int)] 47));have HX6:=Lib.hid (BoxO.new w4 #[.int .u64 (mt.floor:Int),.int .u64 (mt.cert:Int),.int .u64 (mt.at_:Int),.int .u64 (mt.lease:Int)] 47);have HB6:=Lib.hid hb6;rw[←hmt];unfold Mt.val;have HMT:=Lib.hid hmt;clear hmt hb5 HME x0 z1 hb6;obtain⟨x,y,z⟩:=HK.out _ HB6.out;have x0:=x.cell 0;have y0:=y.cell 0;have y1:=y.cell 1;have y3:=y.cell 3;have y4:=y.cell 4;have y5:=y.cell 5;have z0:=z.box.cell 0;have z1:=z.box.cell 1;simp only[gE0,gE1]at x0 y0 y1 y3 y4 y5 z0 z1;have HSL:=Lib.hid (tk3 mt no (w4.alloc (.cells #[.int .u64 (mt.floor:Int),.int .u64 (mt.cert:Int),.int .u64 (mt.at_:Int),.int .u64 (mt.lease:Int)] 47)));unfold Mt.val at HSL;simp only at HSL;clear x y z
 by_cases hlt:no < mt.floor
 ·have hsl:=HSL.out
  rw[if_pos (.inl hlt)]at hsl;have HS2:=Lib.hid hsl;clear hsl HSL;go_wp2_with fail
  with_reducible refine HS2.out.mono ?_
  rintro e w7 ⟨rfl,hb7⟩;have hb8:=(az HB6.out hb7);have hb9:=az hb8 ((Below.refl w7.heap.size w7).alloc (Nat.le_refl _) (.cells #[.int .u64 0,.int .u64 0,.int .u64 0,.int .u64 0] 47));have hm9:=(HX6.out.below hb7).alloc (.cells #[.int .u64 0,.int .u64 0,.int .u64 0,.int .u64 0] 47);obtain⟨x,y,z⟩:=HK.out _ hb9;have q0:=x.cell 0;have q1:=y.cell 1;have q3:=y.cell 3;have p0:=z.box.cell 0;have m0:=hm9.cell 0;simp only[gE0,gE1]at q0 q1 q3 p0 m0;have HAN:=Lib.hid (bw1 g0 (g0+1) nb frm ni 3 mi mt.floor none 0 0 _ q0 p0 q1 q3);have hR:=HR.out;rw[show V.M.v.floor=mt.floor by rw[HMT.out];rfl,if_pos hlt]at hR;have HZ:Hid (∀e w',e=.returned (.slice (some ⟨(w7.alloc (.cells #[.int .u64 0,.int .u64 0,.int .u64 0,.int .u64 0] 47)).heap.size,0,none⟩) 1 1)→Below (w7.alloc (.cells #[.int .u64 0,.int .u64 0,.int .u64 0,.int .u64 0] 47)).heap.size (w7.alloc (.cells #[.int .u64 0,.int .u64 0,.int .u64 0,.int .u64 0] 47)) w'→Answ w' (w7.alloc (.cells #[.int .u64 0,.int .u64 0,.int .u64 0,.int .u64 0] 47)).heap.size 3 ni frm mi mt.floor none 0 0→cv1 X Y w R.1 R.2.1 nb ni now grace frm mi R.2.2 e w'):=Lib.hid (by
   intro e w' h1 h2 h3;rw[hR,h1];exact HH.out.told (HB.out.trans (hb9.mono HB.out.size)) Row.nil_ (fun a ha=>by cases ha) h2 h3)
  clear hR x y z hm9 hb7 hb8 hb9 HS2 x0 y0 y1 y3 y4 y5 z0 z1;go_wp2_with fail
  with_reducible refine HAN.out.mono ?_
  rintro e w8 ⟨rfl,h8,ha8⟩;have hy:=HZ.out _ _ rfl h8 ha8;simp only[World.size_alloc]at hy;have HY:=Lib.hid hy;clear h8 ha8 HZ HAN hy;go_wp2;go_ret;exact HY.out
 ·have hsl:=HSL.out
  rw[if_neg (by have:=HNO.out;omega)]at hsl;have HS2:=Lib.hid hsl;clear hsl HSL;go_wp2_with fail
  with_reducible refine HS2.out.mono ?_
  rintro e w7 ⟨rfl,hb7⟩;have hb8:=az HB6.out hb7;have hb9:=az hb8 ((Below.refl w7.heap.size w7).alloc (Nat.le_refl _) (.cells #[.int .u64 (no:Int),.int .u64 (mt.cert:Int),.int .u64 (mt.at_:Int),.int .u64 (mt.lease:Int)] 47));have hm9:=(HX6.out.below hb7).alloc (.cells #[.int .u64 (no:Int),.int .u64 (mt.cert:Int),.int .u64 (mt.at_:Int),.int .u64 (mt.lease:Int)] 47);have hn9:=BoxO.new w7 #[.int .u64 (no:Int),.int .u64 (mt.cert:Int),.int .u64 (mt.at_:Int),.int .u64 (mt.lease:Int)] 47;obtain⟨W9,hW9⟩:∃W9,W9=w7.alloc (.cells #[.int .u64 (no:Int),.int .u64 (mt.cert:Int),.int .u64 (mt.at_:Int),.int .u64 (mt.lease:Int)] 47):=⟨_,rfl⟩;rw[←hW9]at hb9 hm9 hn9;obtain⟨x,y,z⟩:=HK.out _ hb9;have hbw:Below w.heap.size w W9:=HB.out.trans (hb9.mono HB.out.size);obtain⟨hl1,hl2,hl3⟩:=HL.out;have hgx:∀g,w.heap.size≤g→g∉XY X Y:=fun g hg hm=>by have:=hl1 g hm;omega
  have hg6:w.heap.size≤w4.heap.size:=Nat.le_trans HB.out.size HB5.out.size;have hg7:w.heap.size≤w7.heap.size:=Nat.le_trans HB.out.size hb8.size;have hS0:BoxO W9.drew 25 g0 [.pointer (some ⟨nb,0,none⟩)]∧BoxO W9.drew 47 w4.heap.size [.int .u64 (mt.floor:Int),.int .u64 (mt.cert:Int),.int .u64 (mt.at_:Int),.int .u64 (mt.lease:Int)]∧BoxO W9.drew 47 w7.heap.size [.int .u64 (no:Int),.int .u64 (mt.cert:Int),.int .u64 (mt.at_:Int),.int .u64 (mt.lease:Int)]∧BoxO W9.drew 101 nb [.int .i64 ni,.pointer (some ⟨Y.s,0,none⟩),.int .u64 (now:Int),.int .u64 (grace:Int)]:=⟨x,hm9,hn9,z.box⟩;have HS0:=Lib.hid hS0;have HXY:=Lib.hid (And.intro x (And.intro y z));have HW9:=Lib.hid hW9;have HBW:=Lib.hid hbw;have HGX:=Lib.hid (And.intro hgx (And.intro hg6 hg7));have hR:=HR.out;rw[show V.M.v.floor=mt.floor by rw[HMT.out];rfl,if_neg hlt]at hR;clear hb7 hb8 hb9 hm9 hn9 hbw hgx hg6 hg7 hS0 x y z hW9 hl1 hl2 hl3 x0 y0 y1 y3 y4 y5 z0 z1 HS2;have hqe:=fun W'=>bw5 no mt.floor mt.cert mt.at_ mt.lease W'
  by_cases heq:no=mt.floor
  ·rw[if_pos heq]at hR
   rw[decide_eq_true heq]at hqe;have HR2:=Lib.hid hR;have HEQ:=Lib.hid heq;have HQE:=Lib.hid hqe;clear hR heq hqe hlt;go_wp2_with fail;rw[←HW9.out];refine wp_region_held_drew (S:=fun w'=>BoxO w' 25 g0 [.pointer (some ⟨nb,0,none⟩)]∧BoxO w' 47 w4.heap.size [.int .u64 (mt.floor:Int),.int .u64 (mt.cert:Int),.int .u64 (mt.at_:Int),.int .u64 (mt.lease:Int)]∧BoxO w' 47 w7.heap.size [.int .u64 (no:Int),.int .u64 (mt.cert:Int),.int .u64 (mt.at_:Int),.int .u64 (mt.lease:Int)]∧BoxO w' 101 nb [.int .i64 ni,.pointer (some ⟨Y.s,0,none⟩),.int .u64 (now:Int),.int .u64 (grace:Int)]) rfl HS0.out (fun hSw=>?_);refine wpT (i:=0) (v:=?vhsa0) ?hhsa0 hSw ?khsa0
   case hhsa0=>(intro w hSw;(obtain⟨q1,q2,q3,q4⟩:=hSw;have x0:=q1.cell 0;have z1:=q4.cell 1;have m0:=q2.cell 0;have m1:=q2.cell 1;have m2:=q2.cell 2;have m3:=q2.cell 3;have n0:=q3.cell 0;have n1:=q3.cell 1;have n2:=q3.cell 2;have n3:=q3.cell 3;simp only[gE0,gE1]at x0 z1 m0 m1 m2 m3 n0 n1 n2 n3;have hqe:=HQE.out;clear q1 q2 q3 q4);go_simp;try (with_reducible rfl))
   go_simp;refine wpT (i:=1) (v:=?vhsa1) ?hhsa1 hSw ?khsa1
   case hhsa1=>(intro w hSw;(obtain⟨q1,q2,q3,q4⟩:=hSw;have x0:=q1.cell 0;have z1:=q4.cell 1;have m0:=q2.cell 0;have m1:=q2.cell 1;have m2:=q2.cell 2;have m3:=q2.cell 3;have n0:=q3.cell 0;have n1:=q3.cell 1;have n2:=q3.cell 2;have n3:=q3.cell 3;simp only[gE0,gE1]at x0 z1 m0 m1 m2 m3 n0 n1 n2 n3;have hqe:=HQE.out;clear q1 q2 q3 q4);go_simp;try (with_reducible rfl))
   go_simp;refine wpT (i:=2) (v:=?vhsa2) ?hhsa2 hSw ?khsa2
   case hhsa2=>(intro w hSw;(obtain⟨q1,q2,q3,q4⟩:=hSw;have x0:=q1.cell 0;have z1:=q4.cell 1;have m0:=q2.cell 0;have m1:=q2.cell 1;have m2:=q2.cell 2;have m3:=q2.cell 3;have n0:=q3.cell 0;have n1:=q3.cell 1;have n2:=q3.cell 2;have n3:=q3.cell 3;simp only[gE0,gE1]at x0 z1 m0 m1 m2 m3 n0 n1 n2 n3;have hqe:=HQE.out;clear q1 q2 q3 q4);go_simp;try (with_reducible rfl))
   go_simp;refine wpT (i:=3) (v:=?vhsa3) ?hhsa3 hSw ?khsa3
   case hhsa3=>(intro w hSw;(obtain⟨q1,q2,q3,q4⟩:=hSw;have x0:=q1.cell 0;have z1:=q4.cell 1;have m0:=q2.cell 0;have m1:=q2.cell 1;have m2:=q2.cell 2;have m3:=q2.cell 3;have n0:=q3.cell 0;have n1:=q3.cell 1;have n2:=q3.cell 2;have n3:=q3.cell 3;simp only[gE0,gE1]at x0 z1 m0 m1 m2 m3 n0 n1 n2 n3;have hqe:=HQE.out;clear q1 q2 q3 q4);go_simp;try (with_reducible rfl))
   go_simp;refine wpT0 (i:=4) hSw ?_;go_simp;refine wpT0 (i:=5) hSw ?_;go_simp;refine wpT0 (i:=6) hSw ?_;go_simp;refine wpT0 (i:=7) hSw ?_;go_simp;refine wpT0 (i:=8) hSw ?_;go_simp;refine wpT0 (i:=9) hSw ?_;go_simp;refine wpT0 (i:=10) hSw ?_;go_simp;refine wpT (i:=11) (v:=?vhsa11) ?hhsa11 hSw ?khsa11
   case hhsa11=>(intro w hSw;(obtain⟨q1,q2,q3,q4⟩:=hSw;have x0:=q1.cell 0;have z1:=q4.cell 1;have m0:=q2.cell 0;have m1:=q2.cell 1;have m2:=q2.cell 2;have m3:=q2.cell 3;have n0:=q3.cell 0;have n1:=q3.cell 1;have n2:=q3.cell 2;have n3:=q3.cell 3;simp only[gE0,gE1]at x0 z1 m0 m1 m2 m3 n0 n1 n2 n3;have hqe:=HQE.out;clear q1 q2 q3 q4);go_simp;try (with_reducible rfl))
   go_simp;refine wpAnyH_done (by kernel_rfl) ?_ _;clear hSw HS0;have hd9:Below W9.heap.size W9 W9.drew:=ak (Below.refl _ _);obtain⟨Wd,hWd⟩:∃Wd,Wd=W9.drew:=⟨_,rfl⟩;rw[←hWd]at hd9;have HD9:=Lib.hid hd9;have HWD:=Lib.hid hWd;rw[←HWD.out];clear hd9 hWd;have HK9:Hid (∀W',Below Wd.heap.size Wd W'→BoxO W' 25 g0 [.pointer (some ⟨nb,0,none⟩)]∧BoxO W' 33 (g0+1) [.int .i64 6,.int .i64 frm,.int .i64 ni,.int .u64 (mi:Int),.int .u64 (no:Int),.slice A n c]∧NdAt W' X S Y V nb ni now grace):=Lib.hid (fun W' hb=>⟨(HXY.out.1.below HD9.out).below hb,(HXY.out.2.1.below HD9.out).below hb,(HXY.out.2.2.below HD9.out).below hb⟩);have HST:=Lib.hid (fun W' (hb:Below Wd.heap.size Wd W')=>fk1 (HK9.out W' hb).2.2.at_ (by have:=hN.len;omega));have HAN:=Lib.hid (fun W' (hb:Below Wd.heap.size Wd W') B nn cc=>(by
    obtain⟨q1,q2,q3⟩:=HK9.out W' hb;exact bw1 g0 (g0+1) nb frm ni 7 mi no B nn cc W' (q1.cell 0) (q3.box.cell 0) (q2.cell 1) (q2.cell 3):Calls Tryz.prog 52 #[.int .i64 7,.int .u64 (no:Int),.slice B nn cc,.pointer (some ⟨g0,0,none⟩),.pointer (some ⟨g0+1,0,none⟩)] W' fun e w'=>e=.returned (.slice (some ⟨W'.heap.size,0,none⟩) 1 1)∧Below W'.heap.size W' w'∧Answ w' W'.heap.size 7 ni frm mi no B nn cc))
   go_wp2_with fail;refine wp_region_held_drew (S:=fun w'=>Below Wd.heap.size Wd w') rfl (ak (Below.refl _ _)) (fun hSw=>?_);refine wpT (i:=0) (v:=?vhsb0) ?hhsb0 hSw ?khsb0
   case hhsb0=>(intro w hSw;(obtain⟨x,y,z⟩:=HK9.out _ hSw;have x0:=x.cell 0;have y4:=y.cell 4;have z1:=z.box.cell 1;simp only[gE0,gE1]at x0 y4 z1;clear x y z);go_simp;try (with_reducible rfl))
   go_simp;refine wpT (i:=1) (v:=?vhsb1) ?hhsb1 hSw ?khsb1
   case hhsb1=>(intro w hSw;(obtain⟨x,y,z⟩:=HK9.out _ hSw;have x0:=x.cell 0;have y4:=y.cell 4;have z1:=z.box.cell 1;simp only[gE0,gE1]at x0 y4 z1;clear x y z);go_simp;try (with_reducible rfl))
   go_simp;refine wpT (i:=2) (v:=?vhsb2) ?hhsb2 hSw ?khsb2
   case hhsb2=>(intro w hSw;(obtain⟨x,y,z⟩:=HK9.out _ hSw;have x0:=x.cell 0;have y4:=y.cell 4;have z1:=z.box.cell 1;simp only[gE0,gE1]at x0 y4 z1;clear x y z);go_simp;try (with_reducible rfl))
   go_simp;refine wpT (i:=3) (v:=?vhsb3) ?hhsb3 hSw ?khsb3
   case hhsb3=>(intro w hSw;(obtain⟨x,y,z⟩:=HK9.out _ hSw;have x0:=x.cell 0;have y4:=y.cell 4;have z1:=z.box.cell 1;simp only[gE0,gE1]at x0 y4 z1;clear x y z);go_simp;try (with_reducible rfl))
   go_simp;refine wpT (i:=4) (v:=?vhsb4) ?hhsb4 hSw ?khsb4
   case hhsb4=>(intro w hSw;(obtain⟨x,y,z⟩:=HK9.out _ hSw;have x0:=x.cell 0;have y4:=y.cell 4;have z1:=z.box.cell 1;simp only[gE0,gE1]at x0 y4 z1;clear x y z);go_simp;try (with_reducible rfl))
   go_simp;refine wpT (i:=5) (v:=?vhsb5) ?hhsb5 hSw ?khsb5
   case hhsb5=>(intro w hSw;(obtain⟨x,y,z⟩:=HK9.out _ hSw;have x0:=x.cell 0;have y4:=y.cell 4;have z1:=z.box.cell 1;simp only[gE0,gE1]at x0 y4 z1;clear x y z);go_simp;try (with_reducible rfl))
   go_simp;refine wpT (i:=6) (v:=?vhsb6) ?hhsb6 hSw ?khsb6
   case hhsb6=>(intro w hSw;(obtain⟨x,y,z⟩:=HK9.out _ hSw;have x0:=x.cell 0;have y4:=y.cell 4;have z1:=z.box.cell 1;simp only[gE0,gE1]at x0 y4 z1;clear x y z);go_simp;try (with_reducible rfl))
   go_simp;refine wpT (i:=8) (v:=?vhsb8) ?hhsb8 hSw ?khsb8
   case hhsb8=>(intro w hSw;(obtain⟨x,y,z⟩:=HK9.out _ hSw;have x0:=x.cell 0;have y4:=y.cell 4;have z1:=z.box.cell 1;simp only[gE0,gE1]at x0 y4 z1;clear x y z);go_simp;try (with_reducible rfl))
   go_simp;refine wpT (i:=9) (v:=?vhsb9) ?hhsb9 hSw ?khsb9
   case hhsb9=>(intro w hSw;(obtain⟨x,y,z⟩:=HK9.out _ hSw;have x0:=x.cell 0;have y4:=y.cell 4;have z1:=z.box.cell 1;simp only[gE0,gE1]at x0 y4 z1;clear x y z);go_simp;try (with_reducible rfl))
   go_simp;refine wpAnyH_ready (rs:=[7]) (by kernel_rfl) (by simp) ?_;refine AllReadyH.cons rfl (fun K hK=>?_) AllReadyH.nil;go_simp
   with_reducible refine(HST.out _ hSw).mono ?_
   rintro e w10 ⟨A1,c1,rfl,ho1,hb10⟩;have HUP:=Lib.hid (bq2 A1 Y.A.n c1 V.st no w10 (by have:=(HK9.out _ hSw).2.2.at_.alen;have:=hN.len;omega) (Row.own ho1));clear ho1;go_simp;refine hK.out _ _ (az hSw hb10) (fun hSn=>?_);clear hK K hSw;have hSw:=hSn;clear hSn;go_simp;refine wpAnyH_ready (rs:=[10]) (by kernel_rfl) (by simp) ?_;refine AllReadyH.cons rfl (fun K hK=>?_) AllReadyH.nil;go_simp
   with_reducible refine HUP.out.mono ?_
   rintro e w11 ⟨A2,k2,rfl,hk2,hi2,hb11⟩;clear hk2 HUP;go_simp;refine hK.out _ _ (az hSw hb11) (fun hSn=>?_);clear hK K hSw;have hSw:=hSn;clear hSn;go_simp;refine wpAnyH_ready (rs:=[11]) (by kernel_rfl) (by simp) ?_;refine AllReadyH.cons rfl (fun K hK=>?_) AllReadyH.nil;go_simp
   with_reducible refine(HAN.out _ hSw A2 k2 k2).mono ?_
   rintro e w12 ⟨rfl,hb12,ha12⟩;go_simp;refine hK.out _ _ (az hSw hb12) (fun hSn=>?_);clear hK K hSw;have hSw:=hSn;clear hSn;go_simp;refine wpT (i:=12) (v:=?vhsb12) ?hhsb12 hSw ?khsb12
   case hhsb12=>(intro w hSw;(obtain⟨x,y,z⟩:=HK9.out _ hSw;have x0:=x.cell 0;have y4:=y.cell 4;have z1:=z.box.cell 1;simp only[gE0,gE1]at x0 y4 z1;clear x y z);go_simp;try (with_reducible rfl))
   go_simp;refine wpAnyH_done (by kernel_rfl) ?_ _;have hz:cv1 X Y w R.1 R.2.1 nb ni now grace frm mi R.2.2 (.returned (.slice (some ⟨w11.heap.size,0,none⟩) 1 1)) w12:=by
    have hb911:Below Wd.heap.size Wd w11:=az (az (ak (Below.refl _ _)) hb10) hb11;have hlow:∀a,A2=some a→Wd.heap.size≤a.block:=fun a ha=>Nat.le_trans (az (ak (Below.refl _ _)) hb10).size (hi2.low a ha);have hrow:=hi2.row
    skip
    have hn:cv1 X Y Wd S V nb ni now grace frm mi (some (7,no,upto V.st no)) (.returned (.slice (some ⟨w11.heap.size,0,none⟩) 1 1)) w12:=(HXY.out.2.2.below HD9.out).told hb911 hrow hlow hb12 ha12;rw[HR2.out];exact hn.up rfl rfl (Chg.of_below (HBW.out.trans (HD9.out.mono HBW.out.size)) _) (fun g hg=>.inl hg) (.inl rfl)
   have HZ:=Lib.hid hz;clear hz hSw hb10 hb11 hi2 hb12 ha12 HAN HST;go_wp2;go_ret;exact HZ.out
  ·rw[if_neg heq]at hR
   rw[decide_eq_false heq]at hqe;have hmm:St.xy1 { mt with floor:=no } (St.yx V):=by
    rw[HMT.out];obtain⟨q1,q2,q3⟩:=hmc;exact⟨⟨HNO.out,fun e=>by have e2:no=0:=e;omega⟩,⟨q1,fun e=>e⟩,⟨q2,fun e=>e⟩,⟨q3,fun e=>e⟩⟩
   have hsm:=fun W' (hb:Below W9.heap.size W9 W')=>uj2 (HXY.out.2.2.below hb).at_ { mt with floor:=no } hmm hN.files (by have:=hN.count;omega) hN.name;have hvs:=lv3 S V { mt with floor:=no };have ee:({ St.yx V with floor:=no }:Mt)={ mt with floor:=no }:=by rw[HMT.out]
   rw[ee]at hR;obtain⟨r,hr⟩:∃r,r=St.setMeta S V { mt with floor:=no }:=⟨_,rfl⟩;rw[←hr]at hsm hvs hR;obtain⟨S1,V1,er⟩:=r;unfold wz Mt.val at hsm;simp only at hsm hvs hR;have HSM:=Lib.hid hsm;have HVS:=Lib.hid hvs;have HR2:=Lib.hid hR;have HQE:=Lib.hid hqe;clear hR heq hqe hlt hsm hvs hr ee hmm;obtain⟨be,hbe⟩:∃be:Bool,((er:Int)==0)=be:=⟨_,rfl⟩;have HBE:=Lib.hid hbe;go_wp2_with fail;rw[←HW9.out];refine wp_region_held_drew (S:=fun w'=>BoxO w' 25 g0 [.pointer (some ⟨nb,0,none⟩)]∧BoxO w' 47 w4.heap.size [.int .u64 (mt.floor:Int),.int .u64 (mt.cert:Int),.int .u64 (mt.at_:Int),.int .u64 (mt.lease:Int)]∧BoxO w' 47 w7.heap.size [.int .u64 (no:Int),.int .u64 (mt.cert:Int),.int .u64 (mt.at_:Int),.int .u64 (mt.lease:Int)]∧BoxO w' 101 nb [.int .i64 ni,.pointer (some ⟨Y.s,0,none⟩),.int .u64 (now:Int),.int .u64 (grace:Int)]) rfl HS0.out (fun hSw=>?_);refine wpT (i:=0) (v:=?vhsc0) ?hhsc0 hSw ?khsc0
   case hhsc0=>(intro w hSw;(obtain⟨q1,q2,q3,q4⟩:=hSw;have x0:=q1.cell 0;have z1:=q4.cell 1;have m0:=q2.cell 0;have m1:=q2.cell 1;have m2:=q2.cell 2;have m3:=q2.cell 3;have n0:=q3.cell 0;have n1:=q3.cell 1;have n2:=q3.cell 2;have n3:=q3.cell 3;simp only[gE0,gE1]at x0 z1 m0 m1 m2 m3 n0 n1 n2 n3;have hqe:=HQE.out;clear q1 q2 q3 q4);go_simp;try (with_reducible rfl))
   go_simp;refine wpT (i:=1) (v:=?vhsc1) ?hhsc1 hSw ?khsc1
   case hhsc1=>(intro w hSw;(obtain⟨q1,q2,q3,q4⟩:=hSw;have x0:=q1.cell 0;have z1:=q4.cell 1;have m0:=q2.cell 0;have m1:=q2.cell 1;have m2:=q2.cell 2;have m3:=q2.cell 3;have n0:=q3.cell 0;have n1:=q3.cell 1;have n2:=q3.cell 2;have n3:=q3.cell 3;simp only[gE0,gE1]at x0 z1 m0 m1 m2 m3 n0 n1 n2 n3;have hqe:=HQE.out;clear q1 q2 q3 q4);go_simp;try (with_reducible rfl))
   go_simp;refine wpT (i:=2) (v:=?vhsc2) ?hhsc2 hSw ?khsc2
   case hhsc2=>(intro w hSw;(obtain⟨q1,q2,q3,q4⟩:=hSw;have x0:=q1.cell 0;have z1:=q4.cell 1;have m0:=q2.cell 0;have m1:=q2.cell 1;have m2:=q2.cell 2;have m3:=q2.cell 3;have n0:=q3.cell 0;have n1:=q3.cell 1;have n2:=q3.cell 2;have n3:=q3.cell 3;simp only[gE0,gE1]at x0 z1 m0 m1 m2 m3 n0 n1 n2 n3;have hqe:=HQE.out;clear q1 q2 q3 q4);go_simp;try (with_reducible rfl))
   go_simp;refine wpT (i:=3) (v:=?vhsc3) ?hhsc3 hSw ?khsc3
   case hhsc3=>(intro w hSw;(obtain⟨q1,q2,q3,q4⟩:=hSw;have x0:=q1.cell 0;have z1:=q4.cell 1;have m0:=q2.cell 0;have m1:=q2.cell 1;have m2:=q2.cell 2;have m3:=q2.cell 3;have n0:=q3.cell 0;have n1:=q3.cell 1;have n2:=q3.cell 2;have n3:=q3.cell 3;simp only[gE0,gE1]at x0 z1 m0 m1 m2 m3 n0 n1 n2 n3;have hqe:=HQE.out;clear q1 q2 q3 q4);go_simp;try (with_reducible rfl))
   go_simp;refine wpT (i:=4) (v:=?vhsc4) ?hhsc4 hSw ?khsc4
   case hhsc4=>(intro w hSw;(obtain⟨q1,q2,q3,q4⟩:=hSw;have x0:=q1.cell 0;have z1:=q4.cell 1;have m0:=q2.cell 0;have m1:=q2.cell 1;have m2:=q2.cell 2;have m3:=q2.cell 3;have n0:=q3.cell 0;have n1:=q3.cell 1;have n2:=q3.cell 2;have n3:=q3.cell 3;simp only[gE0,gE1]at x0 z1 m0 m1 m2 m3 n0 n1 n2 n3;have hqe:=HQE.out;clear q1 q2 q3 q4);go_simp;try (with_reducible rfl))
   go_simp;refine wpT (i:=5) (v:=?vhsc5) ?hhsc5 hSw ?khsc5
   case hhsc5=>(intro w hSw;(obtain⟨q1,q2,q3,q4⟩:=hSw;have x0:=q1.cell 0;have z1:=q4.cell 1;have m0:=q2.cell 0;have m1:=q2.cell 1;have m2:=q2.cell 2;have m3:=q2.cell 3;have n0:=q3.cell 0;have n1:=q3.cell 1;have n2:=q3.cell 2;have n3:=q3.cell 3;simp only[gE0,gE1]at x0 z1 m0 m1 m2 m3 n0 n1 n2 n3;have hqe:=HQE.out;clear q1 q2 q3 q4);go_simp;try (with_reducible rfl))
   go_simp;refine wpT (i:=6) (v:=?vhsc6) ?hhsc6 hSw ?khsc6
   case hhsc6=>(intro w hSw;(obtain⟨q1,q2,q3,q4⟩:=hSw;have x0:=q1.cell 0;have z1:=q4.cell 1;have m0:=q2.cell 0;have m1:=q2.cell 1;have m2:=q2.cell 2;have m3:=q2.cell 3;have n0:=q3.cell 0;have n1:=q3.cell 1;have n2:=q3.cell 2;have n3:=q3.cell 3;simp only[gE0,gE1]at x0 z1 m0 m1 m2 m3 n0 n1 n2 n3;have hqe:=HQE.out;clear q1 q2 q3 q4);go_simp;try (with_reducible rfl))
   go_simp;refine wpT (i:=7) (v:=?vhsc7) ?hhsc7 hSw ?khsc7
   case hhsc7=>(intro w hSw;(obtain⟨q1,q2,q3,q4⟩:=hSw;have x0:=q1.cell 0;have z1:=q4.cell 1;have m0:=q2.cell 0;have m1:=q2.cell 1;have m2:=q2.cell 2;have m3:=q2.cell 3;have n0:=q3.cell 0;have n1:=q3.cell 1;have n2:=q3.cell 2;have n3:=q3.cell 3;simp only[gE0,gE1]at x0 z1 m0 m1 m2 m3 n0 n1 n2 n3;have hqe:=HQE.out;clear q1 q2 q3 q4);go_simp;try (with_reducible rfl))
   go_simp;refine wpT (i:=8) (v:=?vhsc8) ?hhsc8 hSw ?khsc8
   case hhsc8=>(intro w hSw;(obtain⟨q1,q2,q3,q4⟩:=hSw;have x0:=q1.cell 0;have z1:=q4.cell 1;have m0:=q2.cell 0;have m1:=q2.cell 1;have m2:=q2.cell 2;have m3:=q2.cell 3;have n0:=q3.cell 0;have n1:=q3.cell 1;have n2:=q3.cell 2;have n3:=q3.cell 3;simp only[gE0,gE1]at x0 z1 m0 m1 m2 m3 n0 n1 n2 n3;have hqe:=HQE.out;clear q1 q2 q3 q4);go_simp;try (with_reducible rfl))
   go_simp;refine wpAnyH_ready (rs:=[9]) (by kernel_rfl) (by simp) ?_;refine AllReadyH.cons rfl (fun K hK=>?_) AllReadyH.nil;go_simp
   with_reducible refine(HSM.out _ (by first|exact ak (Below.refl _ _)|exact Below.refl _ _)).mono ?_
   rintro e w10 ⟨rfl,hu⟩;go_simp;refine hK.out _ _ ⟨hSw.1.chg hu.c (HGX.out.1 _ (by have:=HW.out.2;omega)),hSw.2.1.chg hu.c (HGX.out.1 _ HGX.out.2.1),hSw.2.2.1.chg hu.c (HGX.out.1 _ HGX.out.2.2),(HXY.out.2.2.below (ak (Below.refl _ _))).box.chg hu.c HXY.out.2.2.out⟩ (fun hSn=>?_);clear hK K hSw;have hSw:=hSn;clear hSn;go_simp;refine wpT (i:=10) (v:=?vhsc10) ?hhsc10 hSw ?khsc10
   case hhsc10=>(intro w hSw;(obtain⟨q1,q2,q3,q4⟩:=hSw;have x0:=q1.cell 0;have z1:=q4.cell 1;have m0:=q2.cell 0;have m1:=q2.cell 1;have m2:=q2.cell 2;have m3:=q2.cell 3;have n0:=q3.cell 0;have n1:=q3.cell 1;have n2:=q3.cell 2;have n3:=q3.cell 3;simp only[gE0,gE1]at x0 z1 m0 m1 m2 m3 n0 n1 n2 n3;have hqe:=HQE.out;clear q1 q2 q3 q4);go_simp;try (with_reducible rfl))
   go_simp;refine wpT (i:=11) (v:=?vhsc11) ?hhsc11 hSw ?khsc11
   case hhsc11=>(intro w hSw;(obtain⟨q1,q2,q3,q4⟩:=hSw;have x0:=q1.cell 0;have z1:=q4.cell 1;have m0:=q2.cell 0;have m1:=q2.cell 1;have m2:=q2.cell 2;have m3:=q2.cell 3;have n0:=q3.cell 0;have n1:=q3.cell 1;have n2:=q3.cell 2;have n3:=q3.cell 3;simp only[gE0,gE1]at x0 z1 m0 m1 m2 m3 n0 n1 n2 n3;have hqe:=HQE.out;clear q1 q2 q3 q4);go_simp;try (with_reducible rfl))
   go_simp;refine wpAnyH_done (by kernel_rfl) ?_ _;have hd9:Below W9.heap.size W9 W9.drew:=ak (Below.refl _ _);have hup:=(HXY.out.2.2.below hd9).upd hu;have hbw:=HBW.out.trans (hd9.mono HBW.out.size);have HUP:=Lib.hid (And.intro hup hbw);have hR:=HR2.out
   cases be with
   |false=>
    rw[if_neg (fun e=>by rw[e]at hbe;cases hbe)]at hR;have HZ:Hid (cv1 X Y w R.1 R.2.1 nb ni now grace frm mi R.2.2 (.returned (.slice none 0 0)) w10):=Lib.hid (by
     rw[hR];exact HUP.out.1.mute HUP.out.2)
    clear hR hbe hup hbw hd9 hu hSw HS0;go_wp2;go_ret;exact HZ.out
   |true=>
    rw[if_pos (by have:=eq_of_beq hbe;omega)]at hR;obtain⟨X1,Y1,e1,es1,h10,c10,f10,n10⟩:=hup;have hx10:=(HXY.out.1.below hd9).chg c10 (HGX.out.1 _ (by have:=HW.out.2;omega));have hy10:=(HXY.out.2.1.below hd9).chg c10 (HGX.out.1 _ (by have:=HW.out.2;omega));have HN10:=Lib.hid (And.intro hx10 (And.intro hy10 h10));have HC10:=Lib.hid (And.intro e1 (And.intro es1 (And.intro c10 (And.intro f10 n10))));have HR3:=Lib.hid hR;clear hR hbe hbw hd9 hu hSw HS0 e1 es1 h10 c10 f10 n10 hx10 hy10;have HK9:Hid (∀W',Below w10.heap.size w10 W'→BoxO W' 25 g0 [.pointer (some ⟨nb,0,none⟩)]∧BoxO W' 33 (g0+1) [.int .i64 6,.int .i64 frm,.int .i64 ni,.int .u64 (mi:Int),.int .u64 (no:Int),.slice A n c]∧NdAt W' X1 S1 Y1 V1 nb ni now grace):=Lib.hid (fun W' hb=>⟨HN10.out.1.below hb,HN10.out.2.1.below hb,HN10.out.2.2.below hb⟩);have HST:=Lib.hid (fun W' (hb:Below w10.heap.size w10 W')=>fk1 (HK9.out W' hb).2.2.at_ (by rw[HVS.out];have:=hN.len;omega));have HAN:=Lib.hid (fun W' (hb:Below w10.heap.size w10 W') B nn cc=>(by
     obtain⟨q1,q2,q3⟩:=HK9.out W' hb;exact bw1 g0 (g0+1) nb frm ni 7 mi no B nn cc W' (q1.cell 0) (q3.box.cell 0) (q2.cell 1) (q2.cell 3):Calls Tryz.prog 52 #[.int .i64 7,.int .u64 (no:Int),.slice B nn cc,.pointer (some ⟨g0,0,none⟩),.pointer (some ⟨g0+1,0,none⟩)] W' fun e w'=>e=.returned (.slice (some ⟨W'.heap.size,0,none⟩) 1 1)∧Below W'.heap.size W' w'∧Answ w' W'.heap.size 7 ni frm mi no B nn cc))
    go_wp2_with fail;refine wp_region_held_drew (S:=fun w'=>Below w10.heap.size w10 w') rfl (ak (Below.refl _ _)) (fun hSw=>?_);refine wpT (i:=0) (v:=?vhsd0) ?hhsd0 hSw ?khsd0
    case hhsd0=>(intro w hSw;(obtain⟨x,y,z⟩:=HK9.out _ hSw;have x0:=x.cell 0;have y4:=y.cell 4;have z1:=z.box.cell 1;simp only[gE0,gE1]at x0 y4 z1;clear x y z);go_simp;try (with_reducible rfl))
    go_simp;refine wpT (i:=1) (v:=?vhsd1) ?hhsd1 hSw ?khsd1
    case hhsd1=>(intro w hSw;(obtain⟨x,y,z⟩:=HK9.out _ hSw;have x0:=x.cell 0;have y4:=y.cell 4;have z1:=z.box.cell 1;simp only[gE0,gE1]at x0 y4 z1;clear x y z);go_simp;try (with_reducible rfl))
    go_simp;refine wpT (i:=2) (v:=?vhsd2) ?hhsd2 hSw ?khsd2
    case hhsd2=>(intro w hSw;(obtain⟨x,y,z⟩:=HK9.out _ hSw;have x0:=x.cell 0;have y4:=y.cell 4;have z1:=z.box.cell 1;simp only[gE0,gE1]at x0 y4 z1;clear x y z);go_simp;try (with_reducible rfl))
    go_simp;refine wpT (i:=3) (v:=?vhsd3) ?hhsd3 hSw ?khsd3
    case hhsd3=>(intro w hSw;(obtain⟨x,y,z⟩:=HK9.out _ hSw;have x0:=x.cell 0;have y4:=y.cell 4;have z1:=z.box.cell 1;simp only[gE0,gE1]at x0 y4 z1;clear x y z);go_simp;try (with_reducible rfl))
    go_simp;refine wpT (i:=4) (v:=?vhsd4) ?hhsd4 hSw ?khsd4
    case hhsd4=>(intro w hSw;(obtain⟨x,y,z⟩:=HK9.out _ hSw;have x0:=x.cell 0;have y4:=y.cell 4;have z1:=z.box.cell 1;simp only[gE0,gE1]at x0 y4 z1;clear x y z);go_simp;try (with_reducible rfl))
    go_simp;refine wpT (i:=5) (v:=?vhsd5) ?hhsd5 hSw ?khsd5
    case hhsd5=>(intro w hSw;(obtain⟨x,y,z⟩:=HK9.out _ hSw;have x0:=x.cell 0;have y4:=y.cell 4;have z1:=z.box.cell 1;simp only[gE0,gE1]at x0 y4 z1;clear x y z);go_simp;try (with_reducible rfl))
    go_simp;refine wpT (i:=6) (v:=?vhsd6) ?hhsd6 hSw ?khsd6
    case hhsd6=>(intro w hSw;(obtain⟨x,y,z⟩:=HK9.out _ hSw;have x0:=x.cell 0;have y4:=y.cell 4;have z1:=z.box.cell 1;simp only[gE0,gE1]at x0 y4 z1;clear x y z);go_simp;try (with_reducible rfl))
    go_simp;refine wpT (i:=8) (v:=?vhsd8) ?hhsd8 hSw ?khsd8
    case hhsd8=>(intro w hSw;(obtain⟨x,y,z⟩:=HK9.out _ hSw;have x0:=x.cell 0;have y4:=y.cell 4;have z1:=z.box.cell 1;simp only[gE0,gE1]at x0 y4 z1;clear x y z);go_simp;try (with_reducible rfl))
    go_simp;refine wpT (i:=9) (v:=?vhsd9) ?hhsd9 hSw ?khsd9
    case hhsd9=>(intro w hSw;(obtain⟨x,y,z⟩:=HK9.out _ hSw;have x0:=x.cell 0;have y4:=y.cell 4;have z1:=z.box.cell 1;simp only[gE0,gE1]at x0 y4 z1;clear x y z);go_simp;try (with_reducible rfl))
    go_simp;refine wpAnyH_ready (rs:=[7]) (by kernel_rfl) (by simp) ?_;refine AllReadyH.cons rfl (fun K hK=>?_) AllReadyH.nil;go_simp
    with_reducible refine(HST.out _ hSw).mono ?_
    rintro e w13 ⟨A1,c1,rfl,ho1,hb10⟩;have HUP:=Lib.hid (bq2 A1 Y1.A.n c1 V1.st no w13 (by have:=(HK9.out _ hSw).2.2.at_.alen;rw[HVS.out]at this;have:=hN.len;omega) (Row.own ho1));clear ho1;go_simp;refine hK.out _ _ (az hSw hb10) (fun hSn=>?_);clear hK K hSw;have hSw:=hSn;clear hSn;go_simp;refine wpAnyH_ready (rs:=[10]) (by kernel_rfl) (by simp) ?_;refine AllReadyH.cons rfl (fun K hK=>?_) AllReadyH.nil;go_simp
    with_reducible refine HUP.out.mono ?_
    rintro e w11 ⟨A2,k2,rfl,hk2,hi2,hb11⟩;clear hk2 HUP;go_simp;refine hK.out _ _ (az hSw hb11) (fun hSn=>?_);clear hK K hSw;have hSw:=hSn;clear hSn;go_simp;refine wpAnyH_ready (rs:=[11]) (by kernel_rfl) (by simp) ?_;refine AllReadyH.cons rfl (fun K hK=>?_) AllReadyH.nil;go_simp
    with_reducible refine(HAN.out _ hSw A2 k2 k2).mono ?_
    rintro e w12 ⟨rfl,hb12,ha12⟩;go_simp;refine hK.out _ _ (az hSw hb12) (fun hSn=>?_);clear hK K hSw;have hSw:=hSn;clear hSn;go_simp;refine wpT (i:=12) (v:=?vhsd12) ?hhsd12 hSw ?khsd12
    case hhsd12=>(intro w hSw;(obtain⟨x,y,z⟩:=HK9.out _ hSw;have x0:=x.cell 0;have y4:=y.cell 4;have z1:=z.box.cell 1;simp only[gE0,gE1]at x0 y4 z1;clear x y z);go_simp;try (with_reducible rfl))
    go_simp;refine wpAnyH_done (by kernel_rfl) ?_ _;have hz:cv1 X Y w R.1 R.2.1 nb ni now grace frm mi R.2.2 (.returned (.slice (some ⟨w11.heap.size,0,none⟩) 1 1)) w12:=by
     have hb911:Below w10.heap.size w10 w11:=az (az (ak (Below.refl _ _)) hb10) hb11;have hlow:∀a,A2=some a→w10.heap.size≤a.block:=fun a ha=>Nat.le_trans (az (ak (Below.refl _ _)) hb10).size (hi2.low a ha);have hrow:=hi2.row;rw[HVS.out]at hrow;have hn:cv1 X1 Y1 w10 S1 V1 nb ni now grace frm mi (some (7,no,upto V.st no)) (.returned (.slice (some ⟨w11.heap.size,0,none⟩) 1 1)) w12:=HN10.out.2.2.told hb911 hrow hlow hb12 ha12;rw[HR3.out];exact hn.up HC10.out.1 HC10.out.2.1 ((Chg.of_below HUP.out.2 _).trans HC10.out.2.2.1 (fun g hg=>.inl hg)) (fun g hg=>(HC10.out.2.2.2.1 g hg).imp (fun z=>z) (Nat.le_trans HUP.out.2.size)) (HC10.out.2.2.2.2.imp (fun z=>z) (fun z a ha=>Nat.le_trans HUP.out.2.size (z a ha)))
    have HZ:=Lib.hid hz;clear hz hSw hb10 hb11 hi2 hb12 ha12 HAN HST;go_wp2;go_ret;exact HZ.out
end
section
open Go
namespace Nd
structure NS (q:Int) (S:Sd) (V:Sv) (c d:Nat):Prop where
 calm:Calm S
 quota:S.quota=q
 only:V.only=false
 nm:V.nm=St.jk
 log:∃t,cont S St.jk=some t∧t.length≤c
 man:∃t,cont S (Mw.man 1)=some t∧t.length≤d
 small:Small S [St.jk,Mw.man 1,Mw.kCur] 70000
 sz:V.sz≤c
 ct:V.ct≤c
 mem:V.mem.length≤c
 tabs:V.tabs=[]
 st:Stt V.st
 name:V.M.name=Mw.man 1
 br:V.M.broken=false
 ok:V.M.v.ok=true
 files:V.M.v.files=[]
 count:V.M.count≤d
def v0:Sv:=⟨{ St.first with name:=Mw.man 1,count:=1 },St.jk,0,0,[],[],[],false⟩
theorem born (q:Int) (h1:500000≤q) (h2:q≤1099511627776):∃S,St.create (Sd.new q)=(S,some v0,0)∧NS q S v0 0 100:=by
 have hc:=Calm.new q h2;obtain⟨d6,q1,q2,q3,q4⟩:=nj2 (K:=[]) (B:=2100) hc ⟨fun s x hx=>(by rw[Calm.mq1]at hx;cases hx),fun s x hx=>(by rw[Calm.mq1]at hx;cases hx)⟩ (by simp) (fun s x hx=>(by rw[Calm.mq1]at hx;cases hx)) (Nat.le_refl _) (by simp[Sd.new];omega);have n1:St.jk≠Mw.gq:=by decide
 have n2:St.jk≠Mw.kCur:=by decide
 have n3:St.jk≠Mw.man 1:=by decide+kernel
 have n4:Mw.man 1≠Mw.gq:=by decide+kernel
 have n5:Mw.man 1≠Mw.kCur:=by decide+kernel
 have hl1:St.first.v.whole.rec_.length≤100:=by decide+kernel
 have hl2:(Mw.headB 1).length≤70000:=by decide+kernel
 refine⟨d6,q1,q2,by rw[q3];simp[Sd.new];omega,rfl,rfl,⟨[],?_,Nat.zero_le _⟩,⟨St.first.v.whole.rec_,?_,hl1⟩,⟨fun s x hx=>?_,fun s x hx=>?_⟩,Nat.zero_le _,Nat.zero_le _,Nat.zero_le _,rfl,Stt.nil,rfl,rfl,by decide+kernel,rfl,by decide⟩
 ·rw[q4]
  unfold upd;rw[if_neg n1,if_neg n2,if_neg n1,if_neg n3,if_pos rfl]
 ·rw[q4]
  unfold upd;rw[if_neg n4,if_neg n5,if_neg n4,if_pos rfl]
 all_goals
  rw[q4,Calm.mq1]at hx;unfold upd at hx;split at hx
  ·cases hx
  ·split at hx
   ·injection hx with hx
    subst_vars
    first|simp|exact hl2
   ·split at hx
    ·injection hx with hx
     subst_vars
     first|simp|omega
    ·split at hx
     ·injection hx with hx
      subst_vars;simp
     ·cases hx
variable {q:Int} {S:Sd} {V:Sv} {c d:Nat}
theorem NS.nrm (h:NS q S V c d) (hc:c≤100000) (hd:d≤100000) (hl:V.st.length≤1500):Nrm V:=⟨h.tabs,h.st,hl,by have:=h.sz;omega,by have:=h.ct;omega,by have:=h.mem;omega,by rw[h.nm];decide,by rw[h.files];simp,by have:=h.count;omega,by rw[h.name];decide+kernel⟩
theorem NS.four (h:NS q S V c d):V.M.v.floor≤281474976710656∧V.M.v.cert≤281474976710656∧V.M.v.at_≤281474976710656∧V.M.v.lease≤281474976710656:=by
 have:=h.ok;simp only[Vw.ok,ty1,Bool.and_eq_true,decide_eq_true_eq]at this;omega
theorem NS.sync (h:NS q S V c d):∃S',St.sync S V=(S',V,0)∧NS q S' V c d:=by
 obtain⟨t,ht,_⟩:=h.log;obtain⟨a1,a2,a3,a4⟩:=h.calm.sync (s:=St.jk) (by decide+kernel) ht;refine⟨(S.sync St.jk).1,?_,⟨a2,by rw[a4,h.quota],h.only,h.nm,by rw[a3];exact h.log,by rw[a3];exact h.man,⟨by rw[a3];exact h.small.names,by rw[a3];exact h.small.len⟩,h.sz,h.ct,h.mem,h.tabs,h.st,h.name,h.br,h.ok,h.files,h.count⟩⟩;unfold St.sync;rw[if_neg (by rw[h.only];simp),h.nm,if_pos a1]
theorem NS.apply (h:NS q S V c d) (hq:500000≤q) (hc:c+2000≤70000) {l:List It} (h0:l≠[]) (ha:l.all It.ok=true) (hl:l.length≤60) (hj:(joins V.st l).length≤1500):
  ∃S' V',St.apply S V l=(S',V',0)∧NS q S' V' (c+(22+32 *l.length)) d∧V'.st=joins V.st l∧V'.M=V.M:=by
 have hb:=Lg.py2 l;obtain⟨t,ht,hc0⟩:=h.log;obtain⟨t2,ht2,hd0⟩:=h.man;obtain⟨ln,lu⟩:=h.calm.zy h.small;have n3:Mw.man 1≠St.jk:=by decide+kernel
 obtain⟨a1,a2,a3,a4⟩:=h.calm.append (s:=St.jk) (by decide+kernel) ht (Lg.batch l) (by omega) (by have:=h.quota;simp at lu;omega);refine⟨_,{ V with sz:=V.sz+(Lg.batch l).length,ct:=V.ct+1,mem:=l.foldl wput V.mem,st:=joins V.st l },?_,⟨a2,by rw[a4,h.quota],h.only,h.nm,⟨t++Lg.batch l,?_,?_⟩,⟨t2,?_,hd0⟩,⟨fun s x hx=>?_,fun s x hx=>?_⟩,?_,?_,?_,h.tabs,(vj1 l h.st).1,h.name,h.br,h.ok,h.files,h.count⟩,rfl,rfl⟩
 ·unfold St.apply
  rw[if_neg (by rw[h.only];simp),if_neg (by simp[h0,ha]),if_neg (by omega),if_neg (by omega),h.nm];simp only[a1];simp
 ·rw[a3,upd,if_pos rfl]
 ·rw[List.length_append]
  omega
 ·rw[a3,upd,if_neg n3]
  exact ht2
 ·rw[a3,upd]at hx
  split at hx
  ·subst_vars;simp
  ·exact h.small.names s x hx
 ·rw[a3,upd]at hx
  split at hx
  ·injection hx with hx
   rw[←hx,List.length_append];omega
  ·exact h.small.len s x hx
 ·have:=h.sz
  simp only;omega
 ·have:=h.ct
  simp only;omega
 ·have:=jx1 l V.mem
  have:=h.mem;simp only;omega
theorem NS.mono {c' d':Nat} (h:NS q S V c d) (hc:c≤c') (hd:d≤d'):NS q S V c' d':=⟨h.calm,h.quota,h.only,h.nm,let ⟨t,a,b⟩:=h.log;⟨t,a,by omega⟩,let ⟨t,a,b⟩:=h.man;⟨t,a,by omega⟩,h.small,by have:=h.sz;omega,by have:=h.ct;omega,by have:=h.mem;omega,h.tabs,h.st,h.name,h.br,h.ok,h.files,by have:=h.count;omega⟩
theorem NS.last (h:NS q S V c d) (hq:500000≤q) (hc:c+2000≤70000) {l:List It} (ha:l.all It.ok=true) (hl:l.length≤60) (hj:(joins V.st l).length≤1500):
  ∃S' V',St.last S V l=(S',V',true)∧NS q S' V' (c+(22+32 *l.length)) d∧V'.st=joins V.st l∧V'.M=V.M:=by
 by_cases he:joins V.st l=V.st
 ·obtain⟨S',h1,h2⟩:=h.sync
  refine⟨S',V,?_,h2.mono (by omega) (Nat.le_refl _),he.symm,rfl⟩;unfold St.last;rw[if_pos he,h1];rfl
 ·have h0:l≠[]:=fun e=>he (by rw[e];rfl)
  obtain⟨S1,V1,h1,h2,h3,h4⟩:=h.apply hq hc h0 ha hl hj;obtain⟨S2,h5,h6⟩:=h2.sync;refine⟨S2,V1,?_,h6,h3,h4⟩;unfold St.last;rw[if_neg he,h1];simp only[ne_eq,not_true_eq_false,if_false,h5];rfl
theorem NS.put (h:NS q S V c d) (hq:500000≤q) (hc:c+2000≤70000) {l:List It} (ha:l.all It.ok=true) (hl:l.length≤60) (hj:(joins V.st l).length≤1500) (hf:∀x∈l,V.M.v.floor < x.v):
  ∃S' V',St.put S V l=(S',V',some (2,0,[]))∧NS q S' V' (c+(22+32 *l.length)) d∧V'.st=joins V.st l∧V'.M=V.M:=by
 obtain⟨S1,V1,h1,h2,h3,h4⟩:=h.last hq hc ha hl hj;refine⟨S1,V1,?_,h2,h3,h4⟩;unfold St.put;rw[if_neg (by
  rw[List.any_eq_true];rintro⟨x,hx,h⟩;have:=hf x hx;simp at h;omega),h1,if_pos rfl]
theorem vy3 {v:Vw} (hv:v.ok=true) {f:Nat} (hf:f≠0) (hf2:f≤281474976710656):v.app ⟨[],[],0,f,v.cert,v.at_,v.lease⟩=some { v with floor:=f }:=by
 have ho:({ v with floor:=f }:Vw).ok=true:=by
  simp only[Vw.ok,ty1,Bool.and_eq_true,decide_eq_true_eq]at hv ⊢;refine⟨⟨⟨hv.1.1.1,?_⟩,hv.1.2⟩,hv.2⟩;omega
 have hz:∀a:Nat,orElse a a=a:=fun a=>by unfold orElse;split<;>rfl
 have hz1:orElse f v.floor=f:=by unfold orElse;rw[if_neg hf]
 unfold Vw.app dropAll;simp only[hz,hz1,if_true,List.append_nil];rw[if_pos ho]
theorem NS.raise (h:NS q S V c d) (hq:500000≤q) (hd:d+2012≤70000) {f:Nat} (hf:f≠0) (hf2:f≤281474976710656):
  ∃S' V',St.setMeta S V { St.yx V with floor:=f }=(S',V',0)∧NS q S' V' c (d+2012)∧V'.st=V.st∧V'.M.v={ V.M.v with floor:=f }:=by
 have h4:=h.four;have he:(⟨[],[],0,f,V.M.v.cert,V.M.v.at_,V.M.v.lease⟩:Ed).may=true:=by
  simp[Ed.may,ty1];omega
 have hr:=Ed.rq1 he;obtain⟨t,ht,hc0⟩:=h.log;obtain⟨t2,ht2,hd0⟩:=h.man;obtain⟨ln,lu⟩:=h.calm.zy h.small;have n3:St.jk≠Mw.man 1:=by decide+kernel
 have hnm:Sd.named (Mw.man 1)=true:=by decide+kernel
 obtain⟨a1,a2,a3,a4⟩:=h.calm.append (s:=Mw.man 1) hnm ht2 (Ed.rec_ ⟨[],[],0,f,V.M.v.cert,V.M.v.at_,V.M.v.lease⟩) (by omega) (by have:=h.quota;simp at lu;omega);obtain⟨b1,b2,b3,b4⟩:=a2.sync (s:=Mw.man 1) hnm (x:=t2++Ed.rec_ ⟨[],[],0,f,V.M.v.cert,V.M.v.at_,V.M.v.lease⟩) (by rw[a3,upd,if_pos rfl]);have hsv:Gw.save S V.M ⟨[],[],0,f,V.M.v.cert,V.M.v.at_,V.M.v.lease⟩=(((S.append (Mw.man 1) (Ed.rec_ ⟨[],[],0,f,V.M.v.cert,V.M.v.at_,V.M.v.lease⟩)).1.sync (Mw.man 1)).1,{ V.M with count:=V.M.count+1,v:={ V.M.v with floor:=f } },0):=by
  unfold Gw.save;rw[if_neg (by rw[h.br];simp),if_neg (by rw[he];simp),vy3 h.ok hf hf2];simp only;unfold Gw.put;rw[h.name,if_neg (by simp[a1]),if_neg (by simp[b1])]
 have ho:({ V.M.v with floor:=f }:Vw).ok=true:=by
  have hv:=h.ok;simp only[Vw.ok,ty1,Bool.and_eq_true,decide_eq_true_eq]at hv ⊢;refine⟨⟨⟨hv.1.1.1,?_⟩,hv.1.2⟩,hv.2⟩;omega
 refine⟨((S.append (Mw.man 1) (Ed.rec_ ⟨[],[],0,f,V.M.v.cert,V.M.v.at_,V.M.v.lease⟩)).1.sync (Mw.man 1)).1,{ V with M:={ V.M with count:=V.M.count+1,v:={ V.M.v with floor:=f } } },?_,⟨b2,by rw[b4,a4,h.quota],h.only,h.nm,⟨t,?_,hc0⟩,⟨t2++Ed.rec_ ⟨[],[],0,f,V.M.v.cert,V.M.v.at_,V.M.v.lease⟩,?_,?_⟩,⟨fun s x hx=>?_,fun s x hx=>?_⟩,h.sz,h.ct,h.mem,h.tabs,h.st,h.name,h.br,ho,h.files,?_⟩,rfl,rfl⟩
 ·unfold St.setMeta St.saved
  rw[if_neg (by rw[h.only];simp)];simp only[St.yx];rw[hsv];simp only[h.br,h.only,Bool.or_false]
 ·rw[b3,a3,upd,if_neg n3]
  exact ht
 ·rw[b3,a3,upd,if_pos rfl]
 ·rw[List.length_append]
  omega
 ·rw[b3,a3,upd]at hx
  split at hx
  ·subst_vars;simp
  ·exact h.small.names s x hx
 ·rw[b3,a3,upd]at hx
  split at hx
  ·injection hx with hx
   rw[←hx,List.length_append];omega
  ·exact h.small.len s x hx
 ·have:=h.count
  simp only;omega
end Nd
end
section
open Go Go.RowKit Go.Lib Go.Shelf
variable {w w1 w2:World} {X X1 X2:Dw} {S S1 S2:Sd} {Y Y1 Y2:Yw} {V V1 V2:Sv} {nb now grace:Nat} {ni:Int}
def dx3 (X:Dw) (w:World) (S':Sd) (V':Sv) (ni:Int) (grace:Nat) (e:Ending) (w':World):Prop:=∃nb X' Y,e=.returned (.tuple #[.pointer (some ⟨nb,0,none⟩),.int .i64 0])∧X'.d=X.d∧NdAt w' X' S' Y V' nb ni V'.M.v.at_ grace∧Chg X.foot w w'∧(∀g∈XY X' Y,g∈X.foot∨w.heap.size≤g)∧w.heap.size≤nb
theorem fy3 (S':Sd) (V':Sv) (hop:Calls Tryz.prog 31 #[.pointer (some ⟨X.d,0,none⟩)] w (tz1 X w S' V')) (hfl:V'.M.v.files.length≤10000) (hat:V'.M.v.at_≤1099511627776) (ni:Int) (grace:Nat) (hni:0≤ni∧ni < 7) (hgr:grace≤1099511627776):
  Calls Tryz.prog 14 #[.int .i64 ni,.pointer (some ⟨X.d,0,none⟩),.int .u64 (grace:Int)] w (dx3 X w S' V' ni grace):=by
 have HOP:=Lib.hid hop;have e1:(ni < (0:Int))=False:=eq_false (by omega);have e2:((7:Int)≤ni)=False:=eq_false (by omega);have e3:((1099511627776:Int) < (grace:Int))=False:=eq_false (by omega);obtain⟨a,ha⟩:∃a,a=V'.M.v.at_:=⟨_,rfl⟩;have hfd:∀(x1 x2 x3 x4:Int) W',(Instr.field 47 (.agg #[.int .u64 x1,.int .u64 x2,.int .u64 x3,.int .u64 x4]) 2).run Tryz.prog W'=.ok (.int .u64 x3) W':=fun _ _ _ _ _=>rfl;have hmin:min (a:Int) 1099511627776=(a:Int):=by omega
 have HA:=Lib.hid (And.intro ha hfl);clear hop hat ha hfl;go_enter Tryz.func14,Tryz.ntmps14;go_wp2_with fail
 with_reducible refine HOP.out.mono ?_
 rintro e w1 ⟨X1,Y,rfl,e4,h1,c1,f1⟩;have hme:=dz1 h1 HA.out.2;obtain⟨mt,hmt⟩:∃mt,mt=St.yx V':=⟨_,rfl⟩;rw[←hmt]at hme;have hma:mt.at_=a:=by rw[HA.out.1,hmt];rfl
 obtain⟨m1,m2,m3,m4⟩:=mt;simp only at hma;subst hma;unfold Mt.val at hme;simp only at hme;have HME:=Lib.hid hme;have H1:=Lib.hid (And.intro h1 (And.intro e4 (And.intro c1 f1)));clear hme h1 e4 c1 f1 hmt;go_wp2_with fail
 with_reducible refine HME.out.mono ?_
 rintro e w2 ⟨rfl,hb2⟩;have hb3:=(Below.refl w2.heap.size w2).alloc (Nat.le_refl _) (.cells #[.int .i64 ni,.pointer (some ⟨Y.s,0,none⟩),.int .u64 (m3:Int),.int .u64 (grace:Int)] 101);have hx:=BoxO.new w2 #[.int .i64 ni,.pointer (some ⟨Y.s,0,none⟩),.int .u64 (m3:Int),.int .u64 (grace:Int)] 101;have HZ:Hid (dx3 X w S' V' ni grace (.returned (.tuple #[.pointer (some ⟨w2.heap.size,0,none⟩),.int .i64 0])) (w2.alloc (.cells #[.int .i64 ni,.pointer (some ⟨Y.s,0,none⟩),.int .u64 (m3:Int),.int .u64 (grace:Int)] 101))):=Lib.hid (by
  obtain⟨h1,e4,c1,f1⟩:=H1.out;have hlt:=h1.lt;have hs:=hb2.size;rw[HA.out.1]at hx ⊢;exact⟨w2.heap.size,X1,Y,rfl,e4,⟨(h1.below hb2).below (by rw[←HA.out.1];exact hb3),hx,fun hm=>by have:=hlt _ hm;omega⟩,c1.trans (Chg.of_below (az hb2 (by rw[←HA.out.1];exact hb3)) X.foot) (fun g hg=>.inl hg),f1,Nat.le_trans c1.size hs⟩)
 clear hb2 hb3 hx HME;go_wp2;go_ret2;exact HZ.out
theorem tk2 (h:Dm w X S) (hd:S.dead=false) (hno:∀s∈S.list,St.aq1 s=false) (hld:S.load≤100000000000) (S':Sd) (V':Sv) (hR:St.create S=(S',some V',0)) (hfl:V'.M.v.files.length≤10000) (hat:V'.M.v.at_≤1099511627776) (ni:Int) (grace:Nat) (hni:0≤ni∧ni < 7) (hgr:grace≤1099511627776):
  Calls Tryz.prog 14 #[.int .i64 ni,.pointer (some ⟨X.d,0,none⟩),.int .u64 (grace:Int)] w (dx3 X w S' V' ni grace):=
 fy3 S' V' (xx3 h hd hno hld S' V' hR) hfl hat ni grace hni hgr
theorem dw2 (h:NdAt w X S Y V nb ni now grace) (hn:V.st.length≤1000000):
  Calls Tryz.prog 18 #[.pointer (some ⟨nb,0,none⟩)] w fun e w'=>∃A' c',e=.returned (.slice A' Y.A.n c')∧w'.ownsRow w.heap.size 36 5 (.slice A' Y.A.n c') Y.A.n (itc V.st)∧Below w.heap.size w w':=by
 have k1:=h.box.cell 1;simp only[gE0,gE1]at k1;have HS:=Lib.hid (fk1 h.at_ hn);clear h;go_enter Tryz.func18,Tryz.ntmps18;go_wp2_with fail
 with_reducible refine HS.out.mono ?_
 rintro e w1 ⟨A',c',rfl,h1,h2⟩;have H1:=Lib.hid (And.intro h1 h2);clear h1 h2;go_wp2;go_ret;exact⟨_,_,rfl,H1.out⟩
theorem kk4 (h:NdAt w X S Y V nb ni now grace):
  Calls Tryz.prog 50 #[.pointer (some ⟨nb,0,none⟩)] w fun e w'=>e=.returned (.int .u64 (now:Int))∧w'=w:=by
 have k1:=h.box.cell 2;simp only[gE0,gE1]at k1;clear h;go_enter Tryz.func50,Tryz.ntmps50;go_wp2;go_ret;exact⟨rfl,rfl⟩
end
section
open Go Go.RowKit Go.Lib
end
section
open Go Go.RowKit Go.Lib
end
section
open It
end
section
open Go Go.RowKit Go.Lib
end
section
open Go Go.RowKit Go.Lib
end
section
open Go Go.RowKit Go.Lib
end
section
open Go Go.RowKit Go.Lib Go.Shelf
variable {w w0 w1 w2:World} {X X1 X2:Dw} {S S1 S2:Sd} {Y Y1 Y2:Yw} {V V1 V2:Sv} {nb now grace:Nat} {ni:Int}
structure NdW (w0 w:World) (X:Dw) (S:Sd) (Y:Yw) (V:Sv) (nb:Nat) (ni:Int) (now grace:Nat):Prop where
 at_:NdAt w X S Y V nb ni now grace
 low:∀g∈XY X Y,w0.heap.size≤g
 bel:Below w0.heap.size w0 w
theorem NdW.below (h:NdW w0 w X S Y V nb ni now grace) (hb:Below w.heap.size w w1):NdW w0 w1 X S Y V nb ni now grace:=⟨h.at_.below hb,h.low,az h.bel hb⟩
theorem NdW.turn (h:NdW w0 w X S Y V nb ni now grace) (hn:NdAt w1 X1 S1 Y1 V1 nb ni now grace) (c:Chg (XY X Y) w w1) (f:∀g∈XY X1 Y1,g∈XY X Y∨w.heap.size≤g):NdW w0 w1 X1 S1 Y1 V1 nb ni now grace:=
 ⟨hn,fun g hg=>(f g hg).elim (h.low g) (Nat.le_trans h.bel.size),h.bel.trans (c.below h.bel.size h.low)⟩
theorem av5 {q:Int} (hq:q≤1099511627776) (he:Env w) (hd:DK w1 X (Sd.new q)) (hb:Below w.heap.size w w1) (hf:∀g∈X.foot,w.heap.size≤g):Dm w1 X (Sd.new q):=
 ⟨hd,Sd.rk4 q hq,he.below hb,fun g hg=>Nat.le_trans he.base (hf g hg)⟩
theorem kk3 {q:Int} (h1:500000≤q) (h2:q≤1099511627776) (he:Env w) (hd:DK w1 X (Sd.new q)) (hb:Below w.heap.size w w1) (hf:∀g∈X.foot,w.heap.size≤g) (ni:Int) (grace:Nat) (hni:0≤ni∧ni < 7) (hgr:grace≤1099511627776):
  Calls Tryz.prog 14 #[.int .i64 ni,.pointer (some ⟨X.d,0,none⟩),.int .u64 (grace:Int)] w1 fun e w'=>∃nb X' Y S',e=.returned (.tuple #[.pointer (some ⟨nb,0,none⟩),.int .i64 0])∧NdW w w' X' S' Y Nd.v0 nb ni 0 grace∧Nd.NS q S' Nd.v0 0 100∧w.heap.size≤nb:=by
 obtain⟨S',hcr,hns⟩:=Nd.born q h1 h2;refine(tk2 (av5 h2 he hd hb hf) rfl (by rw[show (Sd.new q).list=[] by simp[Sd.list,Sd.new]];intro s hs;cases hs) (by show 0≤_;omega) S' Nd.v0 hcr (by decide) (by decide) ni grace hni hgr).mono ?_;rintro e w' ⟨nb,X',Y,rfl,e1,h3,c,f,hnb⟩;have hlow:∀g∈XY X' Y,w.heap.size≤g:=fun g hg=>by
  rcases f g hg with z|z
  ·exact hf g z
  ·exact Nat.le_trans hb.size z
 exact⟨nb,X',Y,S',rfl,⟨h3,hlow,hb.trans (c.below hb.size hf)⟩,hns,Nat.le_trans hb.size hnb⟩
theorem wy3 {q:Int} (h1:500000≤q) (h2:q≤1099511627776) (he:Env w) (hd:DK w1 X (Sd.new q)) (hb:Below w.heap.size w w1) (hf:∀g∈X.foot,w.heap.size≤g) (ni:Int) (grace:Nat) (hni:0≤ni∧ni < 7) (hgr:grace≤1099511627776):
  Calls Tryz.prog 14 #[.int .i64 ni,.pointer (some ⟨X.d,0,none⟩),.int .u64 (grace:Int)] w1 fun e w'=>∃nb X' Y S',e=.returned (.tuple #[.pointer (some ⟨nb,0,none⟩),.int .i64 0])∧NdW w w' X' S' Y Nd.v0 nb ni 0 grace∧Nd.NS q S' Nd.v0 0 100:=
 (kk3 h1 h2 he hd hb hf ni grace hni hgr).mono fun _ _ ⟨nb,X',Y,S',a,b,c,_⟩=>⟨nb,X',Y,S',a,b,c⟩
theorem yj4 (he:Env w):Calls Tryz.prog 19 #[] w fun e w'=>e=.returned (.bool true)∧Below w.heap.size w w':=by
 have HDN:=Lib.hid (fq3 1048576 w);have HE:=Lib.hid he;clear he;go_enter Tryz.func19,Tryz.ntmps19;go_wp2_with fail
 with_reducible refine HDN.out.mono ?_
 rintro e w1 ⟨X0,rfl,hdk,hb1,hfo⟩;have hop:=wy3 (by omega) (by omega) HE.out hdk hb1 hfo 2 5 (by omega) (by omega);rw[show ((5:Nat):Int)=5 from rfl]at hop;have HOP:=Lib.hid hop;clear hop hdk hb1 hfo HDN;go_wp2_with fail
 with_reducible refine HOP.out.mono ?_
 rintro e w2 ⟨nb,X,Y,S,rfl,hw,hns⟩;have hask:=gk4 hw.at_ (hns.nrm (by omega) (by omega) (by simp[Nd.v0])) 1 3 7 none 0 0 [] ⟨by simp,by simp,by simp,by simp,by simp,by simp,rfl,.inl rfl⟩ Row.nil_ (by omega);rw[show ((3:Nat):Int)=3 from rfl,show ((7:Nat):Int)=7 from rfl]at hask;have HASK:=Lib.hid hask;have HWB:=Lib.hid hw.bel;have HLOW:=Lib.hid hw.low;clear hask hw hns HOP;go_wp2_with fail
 with_reducible refine HASK.out.mono ?_
 rintro e w3 ⟨X1,Y1,e1,e2,h3,c3,f3,na3,g,B,n,c,rfl,ha,hg,hr,hB,hgx,hBx⟩;have hn0:n=0:=by
  have:=hr.bj1;simpa [Nd.v0] using this.symm
 subst hn0;have a0:=ha.cell 0;have a2:=ha.cell 2;have a3:=ha.cell 3;have a5:=ha.cell 5;simp only[gE0,gE1]at a0 a2 a3 a5;have HNW:=Lib.hid (kk4 h3);have HB3:=Lib.hid (HWB.out.trans (c3.below HWB.out.size HLOW.out));clear HASK e1 e2 h3 c3 f3 na3 ha hg hr hB hgx hBx HWB HLOW;go_wp2_with fail
 with_reducible refine HNW.out.mono ?_
 rintro e w4 ⟨rfl,rfl⟩;go_wp2;go_ret;exact⟨rfl,HB3.out⟩
end
section
open Go Go.RowKit Go.Lib Go.Shelf
variable {w w1 w2:World}
def isNd (x:Int):Bool:=decide (0≤x) &&decide (x < 7)
def xz2 (k:Int):Bool:=k==1||k==5||k==7||k==8
def Mq.ok (m:Mq) (l:List It):Bool:=decide (1≤m.k) &&(decide (m.k≤10) &&(isNd m.frm&&(isNd m.to_&&(decide (m.id≤1099511627776) &&(decide (m.no≤281474976710656) &&(l.all It.ok&&(m.n==0||xz2 m.k)))))))
theorem fk2 (x:Int) (w:World):Calls Tryz.prog 115 #[.int .i64 x] w fun e w'=>e=.returned (.bool (isNd x))∧w'=w:=by
 obtain⟨r,hr⟩:∃r,r=isNd x:=⟨_,rfl⟩;rw[←hr];unfold isNd at hr
 by_cases h1:(0:Int)≤x
 ·by_cases h2:x < (7:Int)
  ·have HB:=Lib.hid (hr.trans (show _=true by simp[h1,h2]))
   clear hr;go_enter Tryz.func115,Tryz.ntmps115;go_wp2;go_ret;exact⟨iq HB.out.symm,rfl⟩
  ·have HB:=Lib.hid (hr.trans (show _=false by simp[h1,h2]))
   clear hr;go_enter Tryz.func115,Tryz.ntmps115;go_wp2;go_ret;exact⟨iq HB.out.symm,rfl⟩
 ·have HB:=Lib.hid (hr.trans (show _=false by simp[h1]))
  clear hr;go_enter Tryz.func115,Tryz.ntmps115;go_wp2;go_ret;exact⟨iq HB.out.symm,rfl⟩
theorem lq3 (x:Int) (w:World):Calls Tryz.prog 117 #[.int .i64 x] w fun e w'=>e=.returned (.bool (xz2 x))∧w'=w:=by
 by_cases h:x=1∨x=5∨x=7∨x=8
 ·rcases h with rfl|rfl|rfl|rfl<;>
  ·go_enter Tryz.func117,Tryz.ntmps117
   go_wp2;go_ret;exact⟨rfl,rfl⟩
 ·have e1:(x==1)=false:=by simp;omega
  have e5:(x==5)=false:=by simp;omega
  have e7:(x==7)=false:=by simp;omega
  have e8:(x==8)=false:=by simp;omega
  have HB:Hid (xz2 x=false):=Lib.hid (by unfold xz2;rw[e1,e5,e7,e8];rfl);go_enter Tryz.func117,Tryz.ntmps117;go_wp2;go_ret;exact⟨iq HB.out.symm,rfl⟩
theorem zx2 (m:Mq) (l:List It) (w:World) (hn:m.n≤1500) (hr:Row w.heap.size w m.A m.n 5 (itc l)):
  Calls Tryz.prog 51 #[m.val] w fun e w'=>e=.returned (.bool (m.ok l))∧Below w.heap.size w w':=by
 obtain⟨k,frm,to_,id,no,A,n,c⟩:=m;obtain⟨r,hrr⟩:∃r,r=Mq.ok ⟨k,frm,to_,id,no,A,n,c⟩ l:=⟨_,rfl⟩;rw[←hrr];unfold Mq.ok at hrr;unfold Mq.val;simp only at hn hr hrr ⊢;have e7:((n:Int)≤(1500:Int))=True:=eq_true (by omega);have hb1:=(Below.refl w.heap.size w).alloc (Nat.le_refl _) (.cells #[.int .i64 k,.int .i64 frm,.int .i64 to_,.int .u64 (id:Int),.int .u64 (no:Int),.slice A n c] 33);have hbx:=BoxO.new w #[.int .i64 k,.int .i64 frm,.int .i64 to_,.int .u64 (id:Int),.int .u64 (no:Int),.slice A n c] 33;have hal:=oy1 A n c l _ (by omega) ((hr.below hb1).up hb1.size);obtain⟨ab,hab⟩:∃ab,ab=l.all It.ok:=⟨_,rfl⟩;rw[←hab]at hal hrr;obtain⟨bf,hbf⟩:∃b,b=isNd frm:=⟨_,rfl⟩;obtain⟨bt,hbt⟩:∃b,b=isNd to_:=⟨_,rfl⟩;obtain⟨bh,hbh⟩:∃b,b=xz2 k:=⟨_,rfl⟩;have hn1:=fun W=>fk2 frm W;have hn2:=fun W=>fk2 to_ W;have hwi:=fun W=>lq3 k W;rw[←hbf]at hn1 hrr;rw[←hbt]at hn2 hrr;rw[←hbh]at hwi hrr;have HAL:=Lib.hid hal;have HN1:=Lib.hid hn1;have HN2:=Lib.hid hn2;have HWI:=Lib.hid hwi;have HB:=Lib.hid (And.intro hb1 hbx);have HB1:=Lib.hid hb1;have HRR:=Lib.hid hrr;clear hal hn1 hn2 hwi hb1 hbx hr hab hbf hbt hbh hrr
 by_cases h1:(1:Int)≤k
 ·by_cases h2:k≤(10:Int)
  ·cases bf with
   |false=>
    have HZ:Hid (r=false):=Lib.hid (by rw[HRR.out];simp[h1,h2]);go_enter Tryz.func51,Tryz.ntmps51;go_wp2_with fail;refine(HN1.out _).mono ?_;rintro e w1 ⟨rfl,rfl⟩;go_wp2;go_ret;exact⟨iq HZ.out.symm,HB1.out⟩
   |true=>
    cases bt with
    |false=>
     have HZ:Hid (r=false):=Lib.hid (by rw[HRR.out];simp[h1,h2]);go_enter Tryz.func51,Tryz.ntmps51;go_wp2_with fail;refine(HN1.out _).mono ?_;rintro e w1 ⟨rfl,rfl⟩;go_wp2_with fail;refine(HN2.out _).mono ?_;rintro e w1 ⟨rfl,rfl⟩;go_wp2;go_ret;exact⟨iq HZ.out.symm,HB1.out⟩
    |true=>
     by_cases h5:(id:Int)≤(1099511627776:Int)
     ·by_cases h6:(no:Int)≤(281474976710656:Int)
      ·cases ab with
       |false=>
        have HZ:Hid (r=false):=Lib.hid (by rw[HRR.out];simp[h1,h2,show id≤1099511627776 by omega,show no≤281474976710656 by omega]);go_enter Tryz.func51,Tryz.ntmps51;go_wp2_with fail;refine(HN1.out _).mono ?_;rintro e w1 ⟨rfl,rfl⟩;go_wp2_with fail;refine(HN2.out _).mono ?_;rintro e w1 ⟨rfl,rfl⟩;go_wp2_with fail
        with_reducible refine HAL.out.mono ?_
        rintro e w1 ⟨rfl,hb2⟩;have hbz:=az HB.out.1 hb2;have hx2:=HB.out.2.below hb2;have c0:=hx2.cell 0;have c5:=hx2.cell 5;simp only[gE0,gE1]at c0 c5;have HBZ:=Lib.hid hbz;clear hx2 HB HAL hb2 hbz HB1;go_wp2;go_ret;exact⟨iq HZ.out.symm,HBZ.out⟩
       |true=>
        by_cases h9:n=0
        ·subst h9
         have HZ:Hid (r=true):=Lib.hid (by rw[HRR.out];simp[h1,h2,show id≤1099511627776 by omega,show no≤281474976710656 by omega]);go_enter Tryz.func51,Tryz.ntmps51;go_wp2_with fail;refine(HN1.out _).mono ?_;rintro e w1 ⟨rfl,rfl⟩;go_wp2_with fail;refine(HN2.out _).mono ?_;rintro e w1 ⟨rfl,rfl⟩;go_wp2_with fail
         with_reducible refine HAL.out.mono ?_
         rintro e w1 ⟨rfl,hb2⟩;have hbz:=az HB.out.1 hb2;have hx2:=HB.out.2.below hb2;have c0:=hx2.cell 0;have c5:=hx2.cell 5;simp only[gE0,gE1]at c0 c5;have HBZ:=Lib.hid hbz;clear hx2 HB HAL hb2 hbz HB1;go_wp2;go_ret;exact⟨iq HZ.out.symm,HBZ.out⟩
        ·have e0:((n:Int)==0)=false:=by simp;omega
         cases bh with
         |false=>
          have HZ:Hid (r=false):=Lib.hid (by rw[HRR.out];simp[h1,h2,show id≤1099511627776 by omega,show no≤281474976710656 by omega,h9]);go_enter Tryz.func51,Tryz.ntmps51;go_wp2_with fail;refine(HN1.out _).mono ?_;rintro e w1 ⟨rfl,rfl⟩;go_wp2_with fail;refine(HN2.out _).mono ?_;rintro e w1 ⟨rfl,rfl⟩;go_wp2_with fail
          with_reducible refine HAL.out.mono ?_
          rintro e w1 ⟨rfl,hb2⟩;have hbz:=az HB.out.1 hb2;have hx2:=HB.out.2.below hb2;have c0:=hx2.cell 0;have c5:=hx2.cell 5;simp only[gE0,gE1]at c0 c5;have HBZ:=Lib.hid hbz;clear hx2 HB HAL hb2 hbz HB1;go_wp2_with fail;refine(HWI.out _).mono ?_;rintro e w2 ⟨rfl,rfl⟩;go_wp2;go_ret;exact⟨iq HZ.out.symm,HBZ.out⟩
         |true=>
          have HZ:Hid (r=true):=Lib.hid (by rw[HRR.out];simp[h1,h2,show id≤1099511627776 by omega,show no≤281474976710656 by omega,h9]);go_enter Tryz.func51,Tryz.ntmps51;go_wp2_with fail;refine(HN1.out _).mono ?_;rintro e w1 ⟨rfl,rfl⟩;go_wp2_with fail;refine(HN2.out _).mono ?_;rintro e w1 ⟨rfl,rfl⟩;go_wp2_with fail
          with_reducible refine HAL.out.mono ?_
          rintro e w1 ⟨rfl,hb2⟩;have hbz:=az HB.out.1 hb2;have hx2:=HB.out.2.below hb2;have c0:=hx2.cell 0;have c5:=hx2.cell 5;simp only[gE0,gE1]at c0 c5;have HBZ:=Lib.hid hbz;clear hx2 HB HAL hb2 hbz HB1;go_wp2_with fail;refine(HWI.out _).mono ?_;rintro e w2 ⟨rfl,rfl⟩;go_wp2;go_ret;exact⟨iq HZ.out.symm,HBZ.out⟩
      ·have HZ:Hid (r=false):=Lib.hid (by rw[HRR.out];simp[h1,h2,show id≤1099511627776 by omega,show ¬no≤281474976710656 by omega])
       go_enter Tryz.func51,Tryz.ntmps51;go_wp2_with fail;refine(HN1.out _).mono ?_;rintro e w1 ⟨rfl,rfl⟩;go_wp2_with fail;refine(HN2.out _).mono ?_;rintro e w1 ⟨rfl,rfl⟩;go_wp2;go_ret;exact⟨iq HZ.out.symm,HB1.out⟩
     ·have HZ:Hid (r=false):=Lib.hid (by rw[HRR.out];simp[h1,h2,show ¬id≤1099511627776 by omega])
      go_enter Tryz.func51,Tryz.ntmps51;go_wp2_with fail;refine(HN1.out _).mono ?_;rintro e w1 ⟨rfl,rfl⟩;go_wp2_with fail;refine(HN2.out _).mono ?_;rintro e w1 ⟨rfl,rfl⟩;go_wp2;go_ret;exact⟨iq HZ.out.symm,HB1.out⟩
  ·have HZ:Hid (r=false):=Lib.hid (by rw[HRR.out];simp[h1,h2])
   go_enter Tryz.func51,Tryz.ntmps51;go_wp2;go_ret;exact⟨iq HZ.out.symm,HB1.out⟩
 ·have HZ:Hid (r=false):=Lib.hid (by rw[HRR.out];simp[h1])
  go_enter Tryz.func51,Tryz.ntmps51;go_wp2;go_ret;exact⟨iq HZ.out.symm,HB1.out⟩
end
section
open Go Go.RowKit Go.Lib Go.Shelf
variable {w w1 w2:World} {X X1 X2:Dw} {S S1 S2:Sd} {Y Y1 Y2:Yw} {V V1 V2:Sv} {nb now grace:Nat} {ni:Int}
def Mt.fills (m:Mt) (f:Nat):Bool:=f==m.floor&&decide (m.cert < f)
theorem vj3 (m:Mt) (f:Nat) (w:World):
  Calls Tryz.prog 126 #[m.val,.int .u64 (f:Int)] w fun e w'=>e=.returned (.bool (m.fills f))∧Below w.heap.size w w':=by
 have hb1:=(Below.refl w.heap.size w).alloc (Nat.le_refl _) (.cells #[.int .u64 (m.floor:Int),.int .u64 (m.cert:Int),.int .u64 (m.at_:Int),.int .u64 (m.lease:Int)] 47);obtain⟨fl,ce,a_,le⟩:=m;obtain⟨r,hr⟩:∃r,r=Mt.fills ⟨fl,ce,a_,le⟩ f:=⟨_,rfl⟩;rw[←hr];unfold Mt.fills at hr;unfold Mt.val;simp only at hr hb1 ⊢
 by_cases h1:f=fl
 ·subst h1
  by_cases h2:(ce:Int) < (f:Int)
  ·have HB:=Lib.hid (hr.trans (show _=true by simp;omega))
   clear hr;go_enter Tryz.func126,Tryz.ntmps126;go_wp2;go_ret;exact⟨iq HB.out.symm,hb1⟩
  ·have HB:=Lib.hid (hr.trans (show _=false by simp;omega))
   clear hr;go_enter Tryz.func126,Tryz.ntmps126;go_wp2;go_ret;exact⟨iq HB.out.symm,hb1⟩
 ·have e1:((f:Int)==(fl:Int))=false:=by rw[beq_eq_false_iff_ne];omega
  have HB:=Lib.hid (hr.trans (show _=false by simp[h1]));clear hr;go_enter Tryz.func126,Tryz.ntmps126;go_wp2;go_ret;exact⟨iq HB.out.symm,hb1⟩
def St.fill (S:Sd) (V:Sv) (f:Nat) (l:List It):Sd×Sv×Bool:=if (St.yx V).fills f=true then St.last S V (upto l f) else (S,V,decide (f=V.M.v.cert))
theorem xv3 (h:NdAt w X S Y V nb ni now grace) (hN:Nrm V) (k frm to_:Int) (id no:Nat) (A:Option Addr) (n c:Nat) (l:List It) (hn:n≤1000) (hr:Row w.heap.size w A n 5 (itc l)) (hfit:∀x∈l,x.fit):
  Calls Tryz.prog 59 #[.pointer (some ⟨nb,0,none⟩),(St.yx V).val,.agg #[.int .i64 k,.int .i64 frm,.int .i64 to_,.int .u64 (id:Int),.int .u64 (no:Int),.slice A n c]] w fun e w'=>e=.returned (.bool (St.fill S V no l).2.2)∧bv1 X Y w w' (St.fill S V no l).1 (St.fill S V no l).2.1 nb ni now grace:=by
 obtain⟨mt,hmt⟩:∃mt,mt=St.yx V:=⟨_,rfl⟩;obtain⟨R,hR⟩:∃R,R=St.fill S V no l:=⟨_,rfl⟩;rw[←hR,←hmt];unfold St.fill at hR;rw[←hmt,show V.M.v.cert=mt.cert by rw[hmt];rfl]at hR;have hb2:=((Below.refl w.heap.size w).alloc (Nat.le_refl _) (.cells #[.int .u64 (mt.floor:Int),.int .u64 (mt.cert:Int),.int .u64 (mt.at_:Int),.int .u64 (mt.lease:Int)] 47)).alloc (by simp) (.cells #[.int .i64 k,.int .i64 frm,.int .i64 to_,.int .u64 (id:Int),.int .u64 (no:Int),.slice A n c] 33);have hx0:=(BoxO.new w #[.int .u64 (mt.floor:Int),.int .u64 (mt.cert:Int),.int .u64 (mt.at_:Int),.int .u64 (mt.lease:Int)] 47).alloc (.cells #[.int .i64 k,.int .i64 frm,.int .i64 to_,.int .u64 (id:Int),.int .u64 (no:Int),.slice A n c] 33);have hx1:=BoxO.new (w.alloc (.cells #[.int .u64 (mt.floor:Int),.int .u64 (mt.cert:Int),.int .u64 (mt.at_:Int),.int .u64 (mt.lease:Int)] 47)) #[.int .i64 k,.int .i64 frm,.int .i64 to_,.int .u64 (id:Int),.int .u64 (no:Int),.slice A n c] 33;rw[World.size_alloc]at hx1;obtain⟨W,hW⟩:∃W,W=(w.alloc (.cells #[.int .u64 (mt.floor:Int),.int .u64 (mt.cert:Int),.int .u64 (mt.at_:Int),.int .u64 (mt.lease:Int)] 47)).alloc (.cells #[.int .i64 k,.int .i64 frm,.int .i64 to_,.int .u64 (id:Int),.int .u64 (no:Int),.slice A n c] 33):=⟨_,rfl⟩;rw[←hW]at hb2 hx0 hx1;have hff:=vj3 mt no W;obtain⟨b,hb⟩:∃b,b=mt.fills no:=⟨_,rfl⟩;rw[←hb]at hff hR;unfold Mt.val at hff ⊢;have HFF:=Lib.hid hff;have HB:=Lib.hid hb2;have HX:=Lib.hid (And.intro hx0 hx1);have HH:=Lib.hid h;have HROW:=Lib.hid hr;clear hff hb2 hx0 hx1 h hr hmt hb;go_enter Tryz.func59,Tryz.ntmps59;go_wp2_with fail;rw[←hW];clear hW
 with_reducible refine HFF.out.mono ?_
 rintro e w2 ⟨rfl,hb2⟩;have HB2:=Lib.hid (HB.out.trans (hb2.mono HB.out.size));have q1:=(HX.out.1.below hb2).cell 1;have p4:=(HX.out.2.below hb2).cell 4;have p5:=(HX.out.2.below hb2).cell 5;simp only[gE0,gE1]at q1 p4 p5;clear hb2 HFF
 cases b with
 |false=>
  rw[if_neg (by simp)]at hR;have hbo:((no:Int)==(mt.cert:Int))=decide (no=mt.cert):=by
   by_cases hq:no=mt.cert
   ·simp[hq]
   ·rw[decide_eq_false hq,beq_eq_false_iff_ne];omega
  obtain⟨d,hd⟩:∃d,d=decide (no=mt.cert):=⟨_,rfl⟩;rw[←hd]at hR hbo;have HZ:Hid (R.2.2=d∧bv1 X Y w w2 R.1 R.2.1 nb ni now grace):=Lib.hid (by
   rw[hR];exact⟨rfl,bv1.same HH.out HB2.out⟩)
  clear hR hd;go_wp2;go_ret;exact⟨iq HZ.out.1.symm,HZ.out.2⟩
 |true=>
  rw[if_pos rfl]at hR;have hup:=bq2 A n c l no w2 (by omega) ((HROW.out.below HB2.out).up HB2.out.size);have HUP:=Lib.hid hup;have HR:=Lib.hid hR;clear hup hR;go_wp2_with fail
  with_reducible refine HUP.out.mono ?_
  rintro e w3 ⟨A3,n3,rfl,hn3,hi3,hb3⟩;have h3:=HH.out.below (az HB2.out hb3);have hlx:=HH.out.at_.lt;have hl3:=List.length_filter_le (fun a:It=>decide (a.v≤no)) l;have hrl:=HROW.out.bj1;have hla:=qk2 h3 hN A3 n3 n3 (upto l no) (by unfold upto at hn3;omega) (Nat.le_refl _) hi3.row (fun a ha hm=>by
   have:=hi3.low a ha;have:=hlx _ hm;have:=HB2.out.size;omega) (fun x hx=>hfit x (List.mem_filter.1 hx).1)
  rw[←HR.out]at hla;have HLA:=Lib.hid hla;have HB3:=Lib.hid (az HB2.out hb3);clear hla h3 hlx hl3 hrl hi3 hb3 hn3 HUP;go_wp2_with fail
  with_reducible refine HLA.out.mono ?_
  rintro e w4 ⟨rfl,hu⟩;have HZ:=Lib.hid (hu.low (B:=0) HB3.out);clear hu;go_wp2;go_ret;exact⟨rfl,HZ.out⟩
end
end Go.Proofs.YthjdpplgfdihoaaGreatDoor
