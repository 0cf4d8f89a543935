/- Texts NodJ, MsgD, NodM, PlainNode in one. No conditions. -/
import Derived.Test.YthjdpplgfdihoaaGreatDoorBunBB

set_option linter.unusedSimpArgs false
set_option linter.unusedVariables false
set_option maxRecDepth 100000
set_option maxHeartbeats 16000000
namespace Go.Proofs.YthjdpplgfdihoaaGreatDoor
section
open Go Go.RowKit Go.Lib Go.Shelf
variable {w w1 w2:World} {X X1 X2:Dw} {S S1 S2:Sd} {Y Y1 Y2:Yw} {V V1 V2:Sv} {nb now grace:Nat} {ni:Int}
def St.seal (S:Sd) (V:Sv) (f:Nat):Sd×Sv×Option (Int×Nat×List It):=
 if f < V.M.v.floor then (S,V,some (3,V.M.v.floor,[])) else
 if f=V.M.v.floor then (S,V,some (7,f,upto V.st f)) else
 if (St.setMeta S V { St.oz V with floor:=f }).2.2=0 then ((St.setMeta S V { St.oz V with floor:=f }).1,(St.setMeta S V { St.oz V with floor:=f }).2.1,some (7,f,upto V.st f)) else
 ((St.setMeta S V { St.oz V with floor:=f }).1,(St.setMeta S V { St.oz V with floor:=f }).2.1,none)
theorem fv5 (x y c a e:Nat) (w:World):(binOp .eql 47 (.agg #[.int .u64 (x:Int),.int .u64 (c:Int),.int .u64 (a:Int),.int .u64 (e:Int)]) (.agg #[.int .u64 (y:Int),.int .u64 (c:Int),.int .u64 (a:Int),.int .u64 (e:Int)])).run Tryz.prog w=.ok (.bool (decide (x=y))) w:=by
 have u4:=Tryz.underlying22;have a4:=Tryz.isAgg22;have z4:=Tryz.sizeOf22;have hS:Tryz.prog.underlying 47=some (.struct (Tryz.prog.fieldsOf 47)):=by kernel_rfl
 have hp:Tryz.prog.stoodInHeld 47=false:=by kernel_rfl
 rw[run_eql_struct,show (10000:Nat)=9999+1 from rfl,run_equalIn_agg w 9999 47 _ _ hS hp];simp only[Program.fieldsOf,Tryz.underlying47];go_simp
 by_cases h:x=y
 ·simp[h]
 ·simp[h]
  omega
theorem qx3 (S:Sd) (V:Sv) (m:Mt):(St.setMeta S V m).2.1.st=V.st:=by
 unfold St.setMeta;split
 ·rfl
 ·rfl
theorem kz11 {P S a oi v} (h:Hv P S a oi v:=by intro w hSw;(obtain⟨x,y,z⟩:=HK.out _ hSw;have x0:=x.c0;have y0:=y.c0;have y1:=y.c1;have y2:=y.c2;have y3:=y.c3;have y4:=y.c4;have y5:=y.c5;have z0:=z.box.c0;clear x y z);go_simp;try (with_reducible rfl)):Hv P S a oi v:=h
theorem kz12 {P S a oi v} (h:Hv P S a oi v:=by intro w hSw;(obtain⟨q1,q2,q3,q4⟩:=hSw;have x0:=q1.c0;have z1:=q4.c1;have m0:=q2.c0;have m1:=q2.c1;have m2:=q2.c2;have m3:=q2.c3;have n0:=q3.c0;have n1:=q3.c1;have n2:=q3.c2;have n3:=q3.c3;have hqe:=HQE.out;clear q1 q2 q3 q4);go_simp;try (with_reducible rfl)):Hv P S a oi v:=h
theorem kz13 {P S a oi v} (h:Hv P S a oi v:=by intro w hSw;(obtain⟨x,y,z⟩:=HK9.out _ hSw;have x0:=x.c0;have y4:=y.c4;have z1:=z.box.c1;clear x y z);go_simp;try (with_reducible rfl)):Hv P S a oi v:=h
theorem zq3 (h:NdAt w X S Y V nb ni now grace) (hN:Nrm V) (frm:Int) (mi no:Nat) (A:Option Addr) (n c:Nat) (l:List It) (hg:(Mq.mk 6 frm ni mi no A n c).Good l) (hr:Row w.heap.size w A n 5 (itc l)) (h1:1≤no) (hmc:V.M.v.cert≤281474976710656∧V.M.v.at_≤281474976710656∧V.M.v.lease≤281474976710656):
  Calls Tryz.prog 15 #[.pointer (some ⟨nb,0,none⟩),.agg #[.int .i64 6,.int .i64 frm,.int .i64 ni,.int .u64 (mi:Int),.int .u64 (no:Int),.slice A n c]] w (yw X Y w (St.seal S V no).1 (St.seal S V no).2.1 nb ni now grace frm mi (St.seal S V no).2.2):=by
 obtain⟨R,hR⟩:=n_ (St.seal S V no);rw[←hR];unfold St.seal at hR;have HR:=H_ hR;have HH:=H_ h;have HNO:=H_ hg.no;clear hR;have hb1:=b_ w (.cells #[.pointer (some ⟨nb,0,none⟩)] 25);have hb2:=hb1.alloc (by simp) (.cells #[.int .i64 6,.int .i64 frm,.int .i64 ni,.int .u64 (mi:Int),.int .u64 (no:Int),.slice A n c] 33);have hx0:=(BoxO.new w #[.pointer (some ⟨nb,0,none⟩)] 25).alloc (.cells #[.int .i64 6,.int .i64 frm,.int .i64 ni,.int .u64 (mi:Int),.int .u64 (no:Int),.slice A n c] 33);have hx1:=BoxO.new (w.alloc (.cells #[.pointer (some ⟨nb,0,none⟩)] 25)) #[.int .i64 6,.int .i64 frm,.int .i64 ni,.int .u64 (mi:Int),.int .u64 (no:Int),.slice A n c] 33;rw[A_]at hx1;have h2:=h.below hb2;have hmf:∀(fn:Fn) (first cap:Array Value) (w:World),(Instr.makeFunc fn first cap).run Tryz.prog w=.ok (.func fn first cap) w:=fun _ _ _ _=>rfl;obtain⟨W,hW⟩:=n_ ((w.alloc (.cells #[.pointer (some ⟨nb,0,none⟩)] 25)).alloc (.cells #[.int .i64 6,.int .i64 frm,.int .i64 ni,.int .u64 (mi:Int),.int .u64 (no:Int),.slice A n c] 33));obtain⟨g0,hg0⟩:=n_ w.heap.size;rw[←hW]at hb2 hx0 hx1 h2;rw[←hg0]at hx0 hx1;have hmo:=fun W' (hb:Below W.heap.size W W')=>dx3 _ l W' hg ((((hr.below hb2).up hb2.size).below hb).up hb.size);unfold Mq.val at hmo;simp only at hmo;have HMO:=H_ hmo;have H2:=H_ h2;have HX:=H_ (d_ hx0 hx1);have HB:=H_ hb2;have HW:=H_ (d_ hW hg0);have HROW:=H_ ((hr.below hb2).up hb2.size);have HL:=H_ (d_ h.at_.lt (d_ h.box.lt h.at_.dm.env.base));have HK:=H_ (fun W' (hb:Below W.heap.size W W')=>d_ (hx0.below hb) (d_ (hx1.below hb) (h2.below hb)));clear hmo h2 hx0 hx1 hb1 hb2 hW hg0 hr h hg;go_enter Tryz.func15,Tryz.ntmps15;go_wp2_with fail;rw[←HW.out.1,←HW.out.2];refine wp_region_held_drew (S:=fun w'=>Below W.heap.size W w') rfl (ak b0_) (fun hSw=>?_);refine w_v 0 hSw ?_ (k:=kz11);go_simp;refine w_r 1 fun K hK=>?_;go_simp
 with_reducible refine(HMO.out _ hSw).mono ?_
 rintro e w3 ⟨rfl,hb3⟩;go_simp;refine hK.out _ _ (az hSw hb3) ?_;clear hSw hK K;intro hSw;go_simp;refine w_v 2 hSw ?_ (k:=kz11);go_simp;refine w_v 3 hSw ?_ (k:=kz11);go_simp;refine w_v 4 hSw ?_ (k:=kz11);go_simp;refine w_v 5 hSw ?_ (k:=kz11);go_simp;refine w_v 6 hSw ?_ (k:=kz11);go_simp;refine w_v 7 hSw ?_ (k:=kz11);go_simp;refine w_v 8 hSw ?_ (k:=kz11);go_simp;refine w_v 9 hSw ?_ (k:=kz11);go_simp;refine w_v 10 hSw ?_ (k:=kz11);go_simp;refine w_v 11 hSw ?_ (k:=kz11);go_simp;refine wpAnyH_done (by kernel_rfl) ?_ _;have hb4:=az (ak (Below.refl W.heap.size W)) hb3;clear hSw hb3 HMO;obtain⟨x,y,z⟩:=HK.out _ hb4;have x0:=x.c0;have z1:=z.box.c1;have HME:=H_ (xx z.at_ (by have:=hN.files;omega));have HB4:=H_ hb4;clear x y z hb4;go_wp2_with fail
 with_reducible refine HME.out.mono ?_
 rintro e w4 ⟨rfl,hb5⟩;obtain⟨mt,hmt⟩:=n_ (St.oz V);have HB5:=H_ (az HB4.out hb5);have hb6:=az HB5.out (b_ w4 (.cells #[.int .u64 (mt.floor:Int),.int .u64 (mt.cert:Int),.int .u64 (mt.at_:Int),.int .u64 (mt.lease:Int)] 47));have HX6:=H_ (BoxO.new w4 #[.int .u64 (mt.floor:Int),.int .u64 (mt.cert:Int),.int .u64 (mt.at_:Int),.int .u64 (mt.lease:Int)] 47);have HB6:=H_ hb6;rw[←hmt];unfold Mt.val;have HMT:=H_ hmt;clear hmt hb5 HME x0 z1 hb6;obtain⟨x,y,z⟩:=HK.out _ HB6.out;have x0:=x.c0;have y0:=y.c0;have y1:=y.c1;have y3:=y.c3;have y4:=y.c4;have y5:=y.c5;have z0:=z.box.c0;have z1:=z.box.c1;have HSL:=H_ (ik4 mt no (w4.alloc (.cells #[.int .u64 (mt.floor:Int),.int .u64 (mt.cert:Int),.int .u64 (mt.at_:Int),.int .u64 (mt.lease:Int)] 47)));unfold Mt.val at HSL;simp only at HSL;clear x y z
 by_cases hlt:no < mt.floor
 ·have hsl:=HSL.out
  rw[if_pos (.inl hlt)]at hsl;have HS2:=H_ hsl;clear hsl HSL;go_wp2_with fail
  with_reducible refine HS2.out.mono ?_
  rintro e w7 ⟨rfl,hb7⟩;have hb8:=(az HB6.out hb7);have hb9:=az hb8 (b_ w7 (.cells #[.int .u64 0,.int .u64 0,.int .u64 0,.int .u64 0] 47));have hm9:=(HX6.out.below hb7).alloc (.cells #[.int .u64 0,.int .u64 0,.int .u64 0,.int .u64 0] 47);obtain⟨x,y,z⟩:=HK.out _ hb9;have q0:=x.c0;have q1:=y.c1;have q3:=y.c3;have p0:=z.box.c0;have m0:=hm9.c0;have HAN:=H_ (ak1 g0 (g0+1) nb frm ni 3 mi mt.floor none 0 0 _ q0 p0 q1 q3);have hR:=HR.out;rw[show V.M.v.floor=mt.floor by rw[HMT.out];rfl,if_pos hlt]at hR;have HZ:Hid (∀e w',e=.returned (.slice (some ⟨(w7.alloc (.cells #[.int .u64 0,.int .u64 0,.int .u64 0,.int .u64 0] 47)).heap.size,0,none⟩) 1 1)→Below (w7.alloc (.cells #[.int .u64 0,.int .u64 0,.int .u64 0,.int .u64 0] 47)).heap.size (w7.alloc (.cells #[.int .u64 0,.int .u64 0,.int .u64 0,.int .u64 0] 47)) w'→Answ w' (w7.alloc (.cells #[.int .u64 0,.int .u64 0,.int .u64 0,.int .u64 0] 47)).heap.size 3 ni frm mi mt.floor none 0 0→yw X Y w R.1 R.2.1 nb ni now grace frm mi R.2.2 e w'):=H_ (by
   intro e w' h1 h2 h3;rw[hR,h1];exact HH.out.told (HB.out.trans (hb9.mono HB.out.size)) Row.nil_ (fun a ha=>by cases ha) h2 h3)
  clear hR x y z hm9 hb7 hb8 hb9 HS2 x0 y0 y1 y3 y4 y5 z0 z1;go_wp2_with fail
  with_reducible refine HAN.out.mono ?_
  rintro e w8 ⟨rfl,h8,ha8⟩;have hy:=HZ.out _ _ rfl h8 ha8;simp only[A_]at hy;have HY:=H_ hy;clear h8 ha8 HZ HAN hy;go_wp2;go_ret;exact HY.out
 ·have hsl:=HSL.out
  rw[if_neg (by have:=HNO.out;omega)]at hsl;have HS2:=H_ hsl;clear hsl HSL;go_wp2_with fail
  with_reducible refine HS2.out.mono ?_
  rintro e w7 ⟨rfl,hb7⟩;have hb8:=az HB6.out hb7;have hb9:=az hb8 (b_ w7 (.cells #[.int .u64 (no:Int),.int .u64 (mt.cert:Int),.int .u64 (mt.at_:Int),.int .u64 (mt.lease:Int)] 47));have hm9:=(HX6.out.below hb7).alloc (.cells #[.int .u64 (no:Int),.int .u64 (mt.cert:Int),.int .u64 (mt.at_:Int),.int .u64 (mt.lease:Int)] 47);have hn9:=BoxO.new w7 #[.int .u64 (no:Int),.int .u64 (mt.cert:Int),.int .u64 (mt.at_:Int),.int .u64 (mt.lease:Int)] 47;obtain⟨W9,hW9⟩:=n_ (w7.alloc (.cells #[.int .u64 (no:Int),.int .u64 (mt.cert:Int),.int .u64 (mt.at_:Int),.int .u64 (mt.lease:Int)] 47));rw[←hW9]at hb9 hm9 hn9;obtain⟨x,y,z⟩:=HK.out _ hb9;have hbw:Below w.heap.size w W9:=HB.out.trans (hb9.mono HB.out.size);obtain⟨hl1,hl2,hl3⟩:=HL.out;have hgx:∀g,w.heap.size≤g→g∉XY X Y:=fun g hg hm=>by have:=hl1 g hm;omega
  have hg6:w.heap.size≤w4.heap.size:=h_ HB.out.size HB5.out.size;have hg7:w.heap.size≤w7.heap.size:=h_ HB.out.size hb8.size;have hS0:BoxO W9.drew 25 g0 [.pointer (some ⟨nb,0,none⟩)]∧BoxO W9.drew 47 w4.heap.size [.int .u64 (mt.floor:Int),.int .u64 (mt.cert:Int),.int .u64 (mt.at_:Int),.int .u64 (mt.lease:Int)]∧BoxO W9.drew 47 w7.heap.size [.int .u64 (no:Int),.int .u64 (mt.cert:Int),.int .u64 (mt.at_:Int),.int .u64 (mt.lease:Int)]∧BoxO W9.drew 101 nb [.int .i64 ni,.pointer (some ⟨Y.s,0,none⟩),.int .u64 (now:Int),.int .u64 (grace:Int)]:=⟨x,hm9,hn9,z.box⟩;have HS0:=H_ hS0;have HXY:=H_ (d_ x (d_ y z));have HW9:=H_ hW9;have HBW:=H_ hbw;have HGX:=H_ (d_ hgx (d_ hg6 hg7));have hR:=HR.out;rw[show V.M.v.floor=mt.floor by rw[HMT.out];rfl,if_neg hlt]at hR;clear hb7 hb8 hb9 hm9 hn9 hbw hgx hg6 hg7 hS0 x y z hW9 hl1 hl2 hl3 x0 y0 y1 y3 y4 y5 z0 z1 HS2;have hqe:=fun W'=>fv5 no mt.floor mt.cert mt.at_ mt.lease W'
  by_cases heq:no=mt.floor
  ·rw[if_pos heq]at hR
   rw[decide_eq_true heq]at hqe;have HR2:=H_ hR;have HEQ:=H_ heq;have HQE:=H_ hqe;clear hR heq hqe hlt;go_wp2_with fail;rw[←HW9.out];refine wp_region_held_drew (S:=fun w'=>BoxO w' 25 g0 [.pointer (some ⟨nb,0,none⟩)]∧BoxO w' 47 w4.heap.size [.int .u64 (mt.floor:Int),.int .u64 (mt.cert:Int),.int .u64 (mt.at_:Int),.int .u64 (mt.lease:Int)]∧BoxO w' 47 w7.heap.size [.int .u64 (no:Int),.int .u64 (mt.cert:Int),.int .u64 (mt.at_:Int),.int .u64 (mt.lease:Int)]∧BoxO w' 101 nb [.int .i64 ni,.pointer (some ⟨Y.s,0,none⟩),.int .u64 (now:Int),.int .u64 (grace:Int)]) rfl HS0.out (fun hSw=>?_);refine w_v 0 hSw ?_ (k:=kz12);go_simp;refine w_v 1 hSw ?_ (k:=kz12);go_simp;refine w_v 2 hSw ?_ (k:=kz12);go_simp;refine w_v 3 hSw ?_ (k:=kz12);go_simp;refine wpT0 (i:=4) hSw ?_;go_simp;refine wpT0 (i:=5) hSw ?_;go_simp;refine wpT0 (i:=6) hSw ?_;go_simp;refine wpT0 (i:=7) hSw ?_;go_simp;refine wpT0 (i:=8) hSw ?_;go_simp;refine wpT0 (i:=9) hSw ?_;go_simp;refine wpT0 (i:=10) hSw ?_;go_simp;refine w_v 11 hSw ?_ (k:=kz12);go_simp;refine wpAnyH_done (by kernel_rfl) ?_ _;clear hSw HS0;have hd9:Below W9.heap.size W9 W9.drew:=ak b0_;obtain⟨Wd,hWd⟩:=n_ W9.drew;rw[←hWd]at hd9;have HD9:=H_ hd9;have HWD:=H_ hWd;rw[←HWD.out];clear hd9 hWd;have HK9:Hid (∀W',Below Wd.heap.size Wd W'→BoxO W' 25 g0 [.pointer (some ⟨nb,0,none⟩)]∧BoxO W' 33 (g0+1) [.int .i64 6,.int .i64 frm,.int .i64 ni,.int .u64 (mi:Int),.int .u64 (no:Int),.slice A n c]∧NdAt W' X S Y V nb ni now grace):=H_ (fun W' hb=>⟨(HXY.out.1.below HD9.out).below hb,(HXY.out.2.1.below HD9.out).below hb,(HXY.out.2.2.below HD9.out).below hb⟩);have HST:=H_ (fun W' (hb:Below Wd.heap.size Wd W')=>dz1 (HK9.out W' hb).2.2.at_ (by have:=hN.len;omega));have HAN:=H_ (fun W' (hb:Below Wd.heap.size Wd W') B nn cc=>(by
    obtain⟨q1,q2,q3⟩:=HK9.out W' hb;exact ak1 g0 (g0+1) nb frm ni 7 mi no B nn cc W' (q1.cell 0) (q3.box.cell 0) (q2.cell 1) (q2.cell 3):Calls Tryz.prog 52 #[.int .i64 7,.int .u64 (no:Int),.slice B nn cc,.pointer (some ⟨g0,0,none⟩),.pointer (some ⟨g0+1,0,none⟩)] W' fun e w'=>e=.returned (.slice (some ⟨W'.heap.size,0,none⟩) 1 1)∧Below W'.heap.size W' w'∧Answ w' W'.heap.size 7 ni frm mi no B nn cc))
   go_wp2_with fail;refine wp_region_held_drew (S:=fun w'=>Below Wd.heap.size Wd w') rfl (ak b0_) (fun hSw=>?_);refine w_v 0 hSw ?_ (k:=kz13);go_simp;refine w_v 1 hSw ?_ (k:=kz13);go_simp;refine w_v 2 hSw ?_ (k:=kz13);go_simp;refine w_v 3 hSw ?_ (k:=kz13);go_simp;refine w_v 4 hSw ?_ (k:=kz13);go_simp;refine w_v 5 hSw ?_ (k:=kz13);go_simp;refine w_v 6 hSw ?_ (k:=kz13);go_simp;refine w_v 8 hSw ?_ (k:=kz13);go_simp;refine w_v 9 hSw ?_ (k:=kz13);go_simp;refine w_r 7 fun K hK=>?_;go_simp
   with_reducible refine(HST.out _ hSw).mono ?_
   rintro e w10 ⟨A1,c1,rfl,ho1,hb10⟩;have HUP:=H_ (yk1 A1 Y.A.n c1 V.st no w10 (by have:=(HK9.out _ hSw).2.2.at_.alen;have:=hN.len;omega) (Row.own ho1));clear ho1;go_simp;refine hK.out _ _ (az hSw hb10) ?_;clear hSw hK K;intro hSw;go_simp;refine w_r 10 fun K hK=>?_;go_simp
   with_reducible refine HUP.out.mono ?_
   rintro e w11 ⟨A2,k2,rfl,hk2,hi2,hb11⟩;clear hk2 HUP;go_simp;refine hK.out _ _ (az hSw hb11) ?_;clear hSw hK K;intro hSw;go_simp;refine w_r 11 fun K hK=>?_;go_simp
   with_reducible refine(HAN.out _ hSw A2 k2 k2).mono ?_
   rintro e w12 ⟨rfl,hb12,ha12⟩;go_simp;refine hK.out _ _ (az hSw hb12) ?_;clear hSw hK K;intro hSw;go_simp;refine w_v 12 hSw ?_ (k:=kz13);go_simp;refine wpAnyH_done (by kernel_rfl) ?_ _;have hz:yw X Y w R.1 R.2.1 nb ni now grace frm mi R.2.2 (.returned (.slice (some ⟨w11.heap.size,0,none⟩) 1 1)) w12:=by
    have hb911:Below Wd.heap.size Wd w11:=az (az (ak b0_) hb10) hb11;have hlow:∀a,A2=some a→Wd.heap.size≤a.block:=fun a ha=>h_ (az (ak b0_) hb10).size (hi2.low a ha);have hrow:=hi2.row
    skip
    have hn:yw X Y Wd S V nb ni now grace frm mi (some (7,no,upto V.st no)) (.returned (.slice (some ⟨w11.heap.size,0,none⟩) 1 1)) w12:=(HXY.out.2.2.below HD9.out).told hb911 hrow hlow hb12 ha12;rw[HR2.out];exact hn.up rfl rfl (Chg.of_below (HBW.out.trans (HD9.out.mono HBW.out.size)) _) (fun g hg=>.inl hg) (.inl rfl)
   have HZ:=H_ hz;clear hz hSw hb10 hb11 hi2 hb12 ha12 HAN HST;go_wp2;go_ret;exact HZ.out
  ·rw[if_neg heq]at hR
   rw[decide_eq_false heq]at hqe;have hmm:St.tz1 { mt with floor:=no } (St.oz V):=by
    rw[HMT.out];obtain⟨q1,q2,q3⟩:=hmc;exact⟨⟨HNO.out,fun e=>by have e2:no=0:=e;omega⟩,⟨q1,fun e=>e⟩,⟨q2,fun e=>e⟩,⟨q3,fun e=>e⟩⟩
   have hsm:=fun W' (hb:Below W9.heap.size W9 W')=>ux1 (HXY.out.2.2.below hb).at_ { mt with floor:=no } hmm hN.files (by have:=hN.count;omega) hN.name;have hvs:=qx3 S V { mt with floor:=no };have ee:({ St.oz V with floor:=no }:Mt)={ mt with floor:=no }:=by rw[HMT.out]
   rw[ee]at hR;obtain⟨r,hr⟩:∃r,r=St.setMeta S V { mt with floor:=no }:=⟨_,rfl⟩;rw[←hr]at hsm hvs hR;obtain⟨S1,V1,er⟩:=r;unfold uy Mt.val at hsm;simp only at hsm hvs hR;have HSM:=H_ hsm;have HVS:=H_ hvs;have HR2:=H_ hR;have HQE:=H_ hqe;clear hR heq hqe hlt hsm hvs hr ee hmm;obtain⟨be,hbe⟩:∃be:Bool,((er:Int)==0)=be:=⟨_,rfl⟩;have HBE:=H_ hbe;go_wp2_with fail;rw[←HW9.out];refine wp_region_held_drew (S:=fun w'=>BoxO w' 25 g0 [.pointer (some ⟨nb,0,none⟩)]∧BoxO w' 47 w4.heap.size [.int .u64 (mt.floor:Int),.int .u64 (mt.cert:Int),.int .u64 (mt.at_:Int),.int .u64 (mt.lease:Int)]∧BoxO w' 47 w7.heap.size [.int .u64 (no:Int),.int .u64 (mt.cert:Int),.int .u64 (mt.at_:Int),.int .u64 (mt.lease:Int)]∧BoxO w' 101 nb [.int .i64 ni,.pointer (some ⟨Y.s,0,none⟩),.int .u64 (now:Int),.int .u64 (grace:Int)]) rfl HS0.out (fun hSw=>?_);refine w_v 0 hSw ?_ (k:=kz12);go_simp;refine w_v 1 hSw ?_ (k:=kz12);go_simp;refine w_v 2 hSw ?_ (k:=kz12);go_simp;refine w_v 3 hSw ?_ (k:=kz12);go_simp;refine w_v 4 hSw ?_ (k:=kz12);go_simp;refine w_v 5 hSw ?_ (k:=kz12);go_simp;refine w_v 6 hSw ?_ (k:=kz12);go_simp;refine w_v 7 hSw ?_ (k:=kz12);go_simp;refine w_v 8 hSw ?_ (k:=kz12);go_simp;refine w_r 9 fun K hK=>?_;go_simp
   with_reducible refine(HSM.out _ (by first|exact ak b0_|exact Below.refl _ _)).mono ?_
   rintro e w10 ⟨rfl,hu⟩;go_simp;refine hK.out _ _ ⟨hSw.1.chg hu.c (HGX.out.1 _ (by have:=HW.out.2;omega)),hSw.2.1.chg hu.c (HGX.out.1 _ HGX.out.2.1),hSw.2.2.1.chg hu.c (HGX.out.1 _ HGX.out.2.2),(HXY.out.2.2.below (ak b0_)).box.chg hu.c HXY.out.2.2.out⟩ ?_;clear hSw hK K;intro hSw;go_simp;refine w_v 10 hSw ?_ (k:=kz12);go_simp;refine w_v 11 hSw ?_ (k:=kz12);go_simp;refine wpAnyH_done (by kernel_rfl) ?_ _;have hd9:Below W9.heap.size W9 W9.drew:=ak b0_;have hup:=(HXY.out.2.2.below hd9).upd hu;have hbw:=HBW.out.trans (hd9.mono HBW.out.size);have HUP:=H_ (d_ hup hbw);have hR:=HR2.out
   cases be with
   |false=>
    rw[if_neg (fun e=>by rw[e]at hbe;cases hbe)]at hR;have HZ:Hid (yw X Y w R.1 R.2.1 nb ni now grace frm mi R.2.2 (.returned (.slice none 0 0)) w10):=H_ (by
     rw[hR];exact HUP.out.1.mute HUP.out.2)
    clear hR hbe hup hbw hd9 hu hSw HS0;go_wp2;go_ret;exact HZ.out
   |true=>
    rw[if_pos (by have:=eq_of_beq hbe;omega)]at hR;obtain⟨X1,Y1,e1,es1,h10,c10,f10,n10⟩:=hup;have hx10:=(HXY.out.1.below hd9).chg c10 (HGX.out.1 _ (by have:=HW.out.2;omega));have hy10:=(HXY.out.2.1.below hd9).chg c10 (HGX.out.1 _ (by have:=HW.out.2;omega));have HN10:=H_ (d_ hx10 (d_ hy10 h10));have HC10:=H_ (d_ e1 (d_ es1 (d_ c10 (d_ f10 n10))));have HR3:=H_ hR;clear hR hbe hbw hd9 hu hSw HS0 e1 es1 h10 c10 f10 n10 hx10 hy10;have HK9:Hid (∀W',Below w10.heap.size w10 W'→BoxO W' 25 g0 [.pointer (some ⟨nb,0,none⟩)]∧BoxO W' 33 (g0+1) [.int .i64 6,.int .i64 frm,.int .i64 ni,.int .u64 (mi:Int),.int .u64 (no:Int),.slice A n c]∧NdAt W' X1 S1 Y1 V1 nb ni now grace):=H_ (fun W' hb=>⟨HN10.out.1.below hb,HN10.out.2.1.below hb,HN10.out.2.2.below hb⟩);have HST:=H_ (fun W' (hb:Below w10.heap.size w10 W')=>dz1 (HK9.out W' hb).2.2.at_ (by rw[HVS.out];have:=hN.len;omega));have HAN:=H_ (fun W' (hb:Below w10.heap.size w10 W') B nn cc=>(by
     obtain⟨q1,q2,q3⟩:=HK9.out W' hb;exact ak1 g0 (g0+1) nb frm ni 7 mi no B nn cc W' (q1.cell 0) (q3.box.cell 0) (q2.cell 1) (q2.cell 3):Calls Tryz.prog 52 #[.int .i64 7,.int .u64 (no:Int),.slice B nn cc,.pointer (some ⟨g0,0,none⟩),.pointer (some ⟨g0+1,0,none⟩)] W' fun e w'=>e=.returned (.slice (some ⟨W'.heap.size,0,none⟩) 1 1)∧Below W'.heap.size W' w'∧Answ w' W'.heap.size 7 ni frm mi no B nn cc))
    go_wp2_with fail;refine wp_region_held_drew (S:=fun w'=>Below w10.heap.size w10 w') rfl (ak b0_) (fun hSw=>?_);refine w_v 0 hSw ?_ (k:=kz13);go_simp;refine w_v 1 hSw ?_ (k:=kz13);go_simp;refine w_v 2 hSw ?_ (k:=kz13);go_simp;refine w_v 3 hSw ?_ (k:=kz13);go_simp;refine w_v 4 hSw ?_ (k:=kz13);go_simp;refine w_v 5 hSw ?_ (k:=kz13);go_simp;refine w_v 6 hSw ?_ (k:=kz13);go_simp;refine w_v 8 hSw ?_ (k:=kz13);go_simp;refine w_v 9 hSw ?_ (k:=kz13);go_simp;refine w_r 7 fun K hK=>?_;go_simp
    with_reducible refine(HST.out _ hSw).mono ?_
    rintro e w13 ⟨A1,c1,rfl,ho1,hb10⟩;have HUP:=H_ (yk1 A1 Y1.A.n c1 V1.st no w13 (by have:=(HK9.out _ hSw).2.2.at_.alen;rw[HVS.out]at this;have:=hN.len;omega) (Row.own ho1));clear ho1;go_simp;refine hK.out _ _ (az hSw hb10) ?_;clear hSw hK K;intro hSw;go_simp;refine w_r 10 fun K hK=>?_;go_simp
    with_reducible refine HUP.out.mono ?_
    rintro e w11 ⟨A2,k2,rfl,hk2,hi2,hb11⟩;clear hk2 HUP;go_simp;refine hK.out _ _ (az hSw hb11) ?_;clear hSw hK K;intro hSw;go_simp;refine w_r 11 fun K hK=>?_;go_simp
    with_reducible refine(HAN.out _ hSw A2 k2 k2).mono ?_
    rintro e w12 ⟨rfl,hb12,ha12⟩;go_simp;refine hK.out _ _ (az hSw hb12) ?_;clear hSw hK K;intro hSw;go_simp;refine w_v 12 hSw ?_ (k:=kz13);go_simp;refine wpAnyH_done (by kernel_rfl) ?_ _;have hz:yw X Y w R.1 R.2.1 nb ni now grace frm mi R.2.2 (.returned (.slice (some ⟨w11.heap.size,0,none⟩) 1 1)) w12:=by
     have hb911:Below w10.heap.size w10 w11:=az (az (ak b0_) hb10) hb11;have hlow:∀a,A2=some a→w10.heap.size≤a.block:=fun a ha=>h_ (az (ak b0_) hb10).size (hi2.low a ha);have hrow:=hi2.row;rw[HVS.out]at hrow;have hn:yw X1 Y1 w10 S1 V1 nb ni now grace frm mi (some (7,no,upto V.st no)) (.returned (.slice (some ⟨w11.heap.size,0,none⟩) 1 1)) w12:=HN10.out.2.2.told hb911 hrow hlow hb12 ha12;rw[HR3.out];exact hn.up HC10.out.1 HC10.out.2.1 ((Chg.of_below HUP.out.2 _).trans HC10.out.2.2.1 (fun g hg=>.inl hg)) (fun g hg=>(HC10.out.2.2.2.1 g hg).imp (fun z=>z) (h_ HUP.out.2.size)) (HC10.out.2.2.2.2.imp (fun z=>z) (fun z a ha=>h_ HUP.out.2.size (z a ha)))
    have HZ:=H_ hz;clear hz hSw hb10 hb11 hi2 hb12 ha12 HAN HST;go_wp2;go_ret;exact HZ.out
end
section
open Go Go.RowKit Go.Lib Go.Shelf
variable {w w1 w2:World} {X X1 X2:Dw} {S S1 S2:Sd} {Y Y1 Y2:Yw} {V V1 V2:Sv} {nb now grace:Nat} {ni:Int}
def Mt.fills (m:Mt) (f:Nat):Bool:=f==m.floor&&decide (m.cert < f)
theorem uy3 (m:Mt) (f:Nat) (w:World):
  Calls Tryz.prog 126 #[m.val,.int .u64 (f:Int)] w fun e w'=>e=.returned (.bool (m.fills f))∧Below w.heap.size w w':=by
 have hb1:=b_ w (.cells #[.int .u64 (m.floor:Int),.int .u64 (m.cert:Int),.int .u64 (m.at_:Int),.int .u64 (m.lease:Int)] 47);obtain⟨fl,ce,a_,le⟩:=m;obtain⟨r,hr⟩:=n_ (Mt.fills ⟨fl,ce,a_,le⟩ f);rw[←hr];unfold Mt.fills at hr;unfold Mt.val;simp only at hr hb1 ⊢
 by_cases h1:f=fl
 ·subst h1
  by_cases h2:(ce:Int) < (f:Int)
  ·have HB:=H_ (hr.trans (show _=true by simp;omega))
   clear hr;go_enter Tryz.func126,Tryz.ntmps126;go_wp2;go_ret;exact⟨gy HB.out.symm,hb1⟩
  ·have HB:=H_ (hr.trans (show _=false by simp;omega))
   clear hr;go_enter Tryz.func126,Tryz.ntmps126;go_wp2;go_ret;exact⟨gy HB.out.symm,hb1⟩
 ·have e1:((f:Int)==(fl:Int))=false:=by rw[beq_eq_false_iff_ne];omega
  have HB:=H_ (hr.trans (show _=false by simp[h1]));clear hr;go_enter Tryz.func126,Tryz.ntmps126;go_wp2;go_ret;exact⟨gy HB.out.symm,hb1⟩
theorem ev4 (m:Mt) (f now:Nat) (w:World) (hnow:now≤281474976710656):
  Calls Tryz.prog 60 #[m.val,.int .u64 (f:Int),.int .u64 (now:Int)] w fun e w'=>e=.returned (if f≤m.cert∨m.floor < f then .tuple #[.agg #[.int .u64 0,.int .u64 0,.int .u64 0,.int .u64 0],.bool false] else .tuple #[Mt.val { m with cert:=f,at_:=now },.bool true])∧Below w.heap.size w w':=by
 have hb2:∀o1 o2,Below w.heap.size w ((w.alloc o1).alloc o2):=fun o1 o2=>(b_ w o1).alloc (by simp) o2;unfold Mt.val;simp only;obtain⟨fl,ce,a_,le⟩:=m;simp only;have hmin:min (now:Int) 281474976710656=(now:Int):=by omega
 by_cases h1:(f:Int)≤(ce:Int)
 ·rw[if_pos (.inl (by omega))]
  have HB:=H_ hb2;clear hb2;go_enter Tryz.func60,Tryz.ntmps60;go_wp2;exact bodyPost_ret (v:=.tuple #[.agg #[.int .u64 0,.int .u64 0,.int .u64 0,.int .u64 0],.bool false]) (by simp[results,go_sem]) rfl ⟨rfl,HB.out _ _⟩
 by_cases h2:(fl:Int) < (f:Int)
 ·rw[if_pos (.inr (by omega))]
  have HB:=H_ hb2;clear hb2;go_enter Tryz.func60,Tryz.ntmps60;go_wp2;exact bodyPost_ret (v:=.tuple #[.agg #[.int .u64 0,.int .u64 0,.int .u64 0,.int .u64 0],.bool false]) (by simp[results,go_sem]) rfl ⟨rfl,HB.out _ _⟩
 rw[if_neg (by omega)];have HB:=H_ hb2;clear hb2;go_enter Tryz.func60,Tryz.ntmps60;go_wp2;exact bodyPost_ret (v:=.tuple #[.agg #[.int .u64 (fl:Int),.int .u64 (f:Int),.int .u64 (now:Int),.int .u64 (le:Int)],.bool true]) (by simp[results,go_sem]) rfl ⟨rfl,HB.out _ _⟩
def St.fill (S:Sd) (V:Sv) (f:Nat) (l:List It):Sd×Sv×Bool:=if (St.oz V).fills f=true then St.last S V (upto l f) else (S,V,decide (f=V.M.v.cert))
theorem gx4 (h:NdAt w X S Y V nb ni now grace) (hN:Nrm V) (k frm to_:Int) (id no:Nat) (A:Option Addr) (n c:Nat) (l:List It) (hn:n≤1000) (hr:Row w.heap.size w A n 5 (itc l)) (hfit:∀x∈l,x.fit):
  Calls Tryz.prog 59 #[.pointer (some ⟨nb,0,none⟩),(St.oz V).val,.agg #[.int .i64 k,.int .i64 frm,.int .i64 to_,.int .u64 (id:Int),.int .u64 (no:Int),.slice A n c]] w fun e w'=>e=.returned (.bool (St.fill S V no l).2.2)∧az1 X Y w w' (St.fill S V no l).1 (St.fill S V no l).2.1 nb ni now grace:=by
 obtain⟨mt,hmt⟩:=n_ (St.oz V);obtain⟨R,hR⟩:=n_ (St.fill S V no l);rw[←hR,←hmt];unfold St.fill at hR;rw[←hmt,show V.M.v.cert=mt.cert by rw[hmt];rfl]at hR;have hb2:=(b_ w (.cells #[.int .u64 (mt.floor:Int),.int .u64 (mt.cert:Int),.int .u64 (mt.at_:Int),.int .u64 (mt.lease:Int)] 47)).alloc (by simp) (.cells #[.int .i64 k,.int .i64 frm,.int .i64 to_,.int .u64 (id:Int),.int .u64 (no:Int),.slice A n c] 33);have hx0:=(BoxO.new w #[.int .u64 (mt.floor:Int),.int .u64 (mt.cert:Int),.int .u64 (mt.at_:Int),.int .u64 (mt.lease:Int)] 47).alloc (.cells #[.int .i64 k,.int .i64 frm,.int .i64 to_,.int .u64 (id:Int),.int .u64 (no:Int),.slice A n c] 33);have hx1:=BoxO.new (w.alloc (.cells #[.int .u64 (mt.floor:Int),.int .u64 (mt.cert:Int),.int .u64 (mt.at_:Int),.int .u64 (mt.lease:Int)] 47)) #[.int .i64 k,.int .i64 frm,.int .i64 to_,.int .u64 (id:Int),.int .u64 (no:Int),.slice A n c] 33;rw[A_]at hx1;obtain⟨W,hW⟩:=n_ ((w.alloc (.cells #[.int .u64 (mt.floor:Int),.int .u64 (mt.cert:Int),.int .u64 (mt.at_:Int),.int .u64 (mt.lease:Int)] 47)).alloc (.cells #[.int .i64 k,.int .i64 frm,.int .i64 to_,.int .u64 (id:Int),.int .u64 (no:Int),.slice A n c] 33));rw[←hW]at hb2 hx0 hx1;have hff:=uy3 mt no W;obtain⟨b,hb⟩:=n_ (mt.fills no);rw[←hb]at hff hR;unfold Mt.val at hff ⊢;have HFF:=H_ hff;have HB:=H_ hb2;have HX:=H_ (d_ hx0 hx1);have HH:=H_ h;have HROW:=H_ hr;clear hff hb2 hx0 hx1 h hr hmt hb;go_enter Tryz.func59,Tryz.ntmps59;go_wp2_with fail;rw[←hW];clear hW
 with_reducible refine HFF.out.mono ?_
 rintro e w2 ⟨rfl,hb2⟩;have HB2:=H_ (HB.out.trans (hb2.mono HB.out.size));have q1:=(HX.out.1.below hb2).c1;have p4:=(HX.out.2.below hb2).c4;have p5:=(HX.out.2.below hb2).c5;clear hb2 HFF
 cases b with
 |false=>
  rw[if_neg (by simp)]at hR;have hbo:((no:Int)==(mt.cert:Int))=decide (no=mt.cert):=by
   by_cases hq:no=mt.cert
   ·simp[hq]
   ·rw[decide_eq_false hq,beq_eq_false_iff_ne];omega
  obtain⟨d,hd⟩:=n_ (decide (no=mt.cert));rw[←hd]at hR hbo;have HZ:Hid (R.2.2=d∧az1 X Y w w2 R.1 R.2.1 nb ni now grace):=H_ (by
   rw[hR];exact⟨rfl,az1.same HH.out HB2.out⟩)
  clear hR hd;go_wp2;go_ret;exact⟨gy HZ.out.1.symm,HZ.out.2⟩
 |true=>
  rw[if_pos rfl]at hR;have hup:=yk1 A n c l no w2 (by omega) ((HROW.out.below HB2.out).up HB2.out.size);have HUP:=H_ hup;have HR:=H_ hR;clear hup hR;go_wp2_with fail
  with_reducible refine HUP.out.mono ?_
  rintro e w3 ⟨A3,n3,rfl,hn3,hi3,hb3⟩;have h3:=HH.out.below (az HB2.out hb3);have hlx:=HH.out.at_.lt;have hl3:=ay_ (fun a:It=>decide (a.v≤no)) l;have hrl:=HROW.out.uz;have hla:=wk2 h3 hN A3 n3 n3 (upto l no) (by unfold upto at hn3;omega) l_ hi3.row (fun a ha hm=>by
   have:=hi3.low a ha;have:=hlx _ hm;have:=HB2.out.size;omega) (fun x hx=>hfit x (ab_.1 hx).1)
  rw[←HR.out]at hla;have HLA:=H_ hla;have HB3:=H_ (az HB2.out hb3);clear hla h3 hlx hl3 hrl hi3 hb3 hn3 HUP;go_wp2_with fail
  with_reducible refine HLA.out.mono ?_
  rintro e w4 ⟨rfl,hu⟩;have HZ:=H_ (hu.low (B:=0) HB3.out);clear hu;go_wp2;go_ret;exact⟨rfl,HZ.out⟩
end
section
open Go Go.RowKit Go.Lib Go.Shelf
variable {w w1 w2:World} {X X1 X2:Dw} {S S1 S2:Sd} {Y Y1 Y2:Yw} {V V1 V2:Sv} {nb now grace:Nat} {ni:Int}
theorem kz37 {P S a oi v} (h:Hv P S a oi v:=by intro w hSw;(obtain⟨x,y,z⟩:=HK.out _ hSw;have x0:=x.c0;have y0:=y.c0;have y1:=y.c1;have y2:=y.c2;have y3:=y.c3;have y4:=y.c4;have y5:=y.c5;have z0:=z.box.c0;clear x y z);go_simp;try (with_reducible rfl)):Hv P S a oi v:=h
theorem jv5 (h:NdAt w X S Y V nb ni now grace) (k frm to_:Int) (mi no:Nat) (A:Option Addr) (n c:Nat) (l:List It) (hn:n≤1000) (hr:Row w.heap.size w A n 5 (itc l)) (hno:Mq.ok ⟨k,frm,to_,mi,no,A,n,c⟩ l=false∨to_≠ni):
  Calls Tryz.prog 15 #[.pointer (some ⟨nb,0,none⟩),.agg #[.int .i64 k,.int .i64 frm,.int .i64 to_,.int .u64 (mi:Int),.int .u64 (no:Int),.slice A n c]] w (yw X Y w S V nb ni now grace frm mi none):=by
 have hb1:=b_ w (.cells #[.pointer (some ⟨nb,0,none⟩)] 25);have hb2:=hb1.alloc (by simp) (.cells #[.int .i64 k,.int .i64 frm,.int .i64 to_,.int .u64 (mi:Int),.int .u64 (no:Int),.slice A n c] 33);have hx0:=(BoxO.new w #[.pointer (some ⟨nb,0,none⟩)] 25).alloc (.cells #[.int .i64 k,.int .i64 frm,.int .i64 to_,.int .u64 (mi:Int),.int .u64 (no:Int),.slice A n c] 33);have hx1:=BoxO.new (w.alloc (.cells #[.pointer (some ⟨nb,0,none⟩)] 25)) #[.int .i64 k,.int .i64 frm,.int .i64 to_,.int .u64 (mi:Int),.int .u64 (no:Int),.slice A n c] 33;rw[A_]at hx1;have h2:=h.below hb2;obtain⟨W,hW⟩:=n_ ((w.alloc (.cells #[.pointer (some ⟨nb,0,none⟩)] 25)).alloc (.cells #[.int .i64 k,.int .i64 frm,.int .i64 to_,.int .u64 (mi:Int),.int .u64 (no:Int),.slice A n c] 33));obtain⟨g0,hg0⟩:=n_ w.heap.size;rw[←hW]at hb2 hx0 hx1 h2;rw[←hg0]at hx0 hx1;have hmo:=fun W' (hb:Below W.heap.size W W')=>lq2 ⟨k,frm,to_,mi,no,A,n,c⟩ l W' (by simp only;omega) ((((hr.below hb2).up hb2.size).below hb).up hb.size);obtain⟨ok,hok⟩:=n_ (Mq.ok ⟨k,frm,to_,mi,no,A,n,c⟩ l);rw[←hok]at hmo hno;unfold Mq.val at hmo;simp only at hmo;have HMO:=H_ hmo;have HK:=H_ (fun W' (hb:Below W.heap.size W W')=>d_ (hx0.below hb) (d_ (hx1.below hb) (h2.below hb)));have HZ:=H_ (fun W' (hb:Below W.heap.size W W')=>(az1.same h (hb2.trans (hb.mono hb2.size))).mute (w:=w) (mf:=frm) (mi:=mi) b0_);have HW:=H_ (d_ hW hg0);have HNO:=H_ hno;clear hmo h2 hx0 hx1 hb1 hb2 hW hg0 hr h hok hno
 cases ok with
 |false=>
  go_enter Tryz.func15,Tryz.ntmps15;go_wp2_with fail;rw[←HW.out.1,←HW.out.2];refine wp_region_held_drew (S:=fun w'=>Below W.heap.size W w') rfl (ak b0_) (fun hSw=>?_);refine w_v 0 hSw ?_ (k:=kz37);go_simp;refine w_r 1 fun K hK=>?_;go_simp
  with_reducible refine(HMO.out _ hSw).mono ?_
  rintro e w3 ⟨rfl,hb3⟩;go_simp;refine hK.out _ _ (az hSw hb3) ?_;clear hSw hK K;intro hSw;go_simp;refine w_v 2 hSw ?_ (k:=kz37);go_simp;refine w_v 3 hSw ?_ (k:=kz37);go_simp;refine wpT0 (i:=4) hSw ?_;go_simp;refine wpT0 (i:=5) hSw ?_;go_simp;refine wpT0 (i:=6) hSw ?_;go_simp;refine wpT0 (i:=7) hSw ?_;go_simp;refine wpT0 (i:=8) hSw ?_;go_simp;refine wpT0 (i:=9) hSw ?_;go_simp;refine wpT0 (i:=10) hSw ?_;go_simp;refine w_v 11 hSw ?_ (k:=kz37);go_simp;refine wpAnyH_done (by kernel_rfl) ?_ _;have HQ:=H_ (HZ.out w3 (az (ak b0_) hb3));clear hSw hb3 HMO HK HZ;go_wp2;go_ret;exact HQ.out
 |true=>
  have e1:(to_==ni)=false:=by have:=HNO.out;simpa using this
  have e2:(to_ !=ni)=true:=by have:=HNO.out;simpa using this
  go_enter Tryz.func15,Tryz.ntmps15;go_wp2_with fail;rw[←HW.out.1,←HW.out.2];refine wp_region_held_drew (S:=fun w'=>Below W.heap.size W w') rfl (ak b0_) (fun hSw=>?_);refine w_v 0 hSw ?_ (k:=kz37);go_simp;refine w_r 1 fun K hK=>?_;go_simp
  with_reducible refine(HMO.out _ hSw).mono ?_
  rintro e w3 ⟨rfl,hb3⟩;go_simp;refine hK.out _ _ (az hSw hb3) ?_;clear hSw hK K;intro hSw;go_simp;refine w_v 2 hSw ?_ (k:=kz37);go_simp;refine w_v 3 hSw ?_ (k:=kz37);go_simp;refine w_v 4 hSw ?_ (k:=kz37);go_simp;refine w_v 5 hSw ?_ (k:=kz37);go_simp;refine w_v 6 hSw ?_ (k:=kz37);go_simp;refine w_v 7 hSw ?_ (k:=kz37);go_simp;refine w_v 8 hSw ?_ (k:=kz37);go_simp;refine w_v 9 hSw ?_ (k:=kz37);go_simp;refine w_v 10 hSw ?_ (k:=kz37);go_simp;refine w_v 11 hSw ?_ (k:=kz37);go_simp;refine wpAnyH_done (by kernel_rfl) ?_ _;have HQ:=H_ (HZ.out w3 (az (ak b0_) hb3));clear hSw hb3 HMO HK HZ;go_wp2;go_ret;exact HQ.out
theorem jj5 (h:NdAt w X S Y V nb ni now grace) (hN:Nrm V) (frm:Int) (mi no:Nat) (A:Option Addr) (n c:Nat) (l:List It) (k:Int) (hok:Mq.ok ⟨k,frm,ni,mi,no,A,n,c⟩ l=true) (hn:n≤1000) (hr:Row w.heap.size w A n 5 (itc l)) (ho:k≠1∧k≠4∧k≠6∧k≠8∧k≠10):
  Calls Tryz.prog 15 #[.pointer (some ⟨nb,0,none⟩),.agg #[.int .i64 k,.int .i64 frm,.int .i64 ni,.int .u64 (mi:Int),.int .u64 (no:Int),.slice A n c]] w (yw X Y w S V nb ni now grace frm mi none):=by
 have hb1:=b_ w (.cells #[.pointer (some ⟨nb,0,none⟩)] 25);have hb2:=hb1.alloc (by simp) (.cells #[.int .i64 k,.int .i64 frm,.int .i64 ni,.int .u64 (mi:Int),.int .u64 (no:Int),.slice A n c] 33);have hx0:=(BoxO.new w #[.pointer (some ⟨nb,0,none⟩)] 25).alloc (.cells #[.int .i64 k,.int .i64 frm,.int .i64 ni,.int .u64 (mi:Int),.int .u64 (no:Int),.slice A n c] 33);have hx1:=BoxO.new (w.alloc (.cells #[.pointer (some ⟨nb,0,none⟩)] 25)) #[.int .i64 k,.int .i64 frm,.int .i64 ni,.int .u64 (mi:Int),.int .u64 (no:Int),.slice A n c] 33;rw[A_]at hx1;have h2:=h.below hb2;have hmf:∀(fn:Fn) (first cap:Array Value) (w:World),(Instr.makeFunc fn first cap).run Tryz.prog w=.ok (.func fn first cap) w:=fun _ _ _ _=>rfl;obtain⟨W,hW⟩:=n_ ((w.alloc (.cells #[.pointer (some ⟨nb,0,none⟩)] 25)).alloc (.cells #[.int .i64 k,.int .i64 frm,.int .i64 ni,.int .u64 (mi:Int),.int .u64 (no:Int),.slice A n c] 33));obtain⟨g0,hg0⟩:=n_ w.heap.size;rw[←hW]at hb2 hx0 hx1 h2;rw[←hg0]at hx0 hx1;have hmo:=fun W' (hb:Below W.heap.size W W')=>lq2 ⟨k,frm,ni,mi,no,A,n,c⟩ l W' (by simp only;omega) ((((hr.below hb2).up hb2.size).below hb).up hb.size);simp only[hok]at hmo;unfold Mq.val at hmo;simp only at hmo;have HMO:=H_ hmo;have H2:=H_ h2;have HX:=H_ (d_ hx0 hx1);have HB:=H_ hb2;have HW:=H_ (d_ hW hg0);have HROW:=H_ ((hr.below hb2).up hb2.size);have HL:=H_ (d_ h.at_.lt (d_ h.box.lt h.at_.dm.env.base));have HK:=H_ (fun W' (hb:Below W.heap.size W W')=>d_ (hx0.below hb) (d_ (hx1.below hb) (h2.below hb)));have HH:=H_ h;clear hmo h2 hx0 hx1 hb1 hb2 hW hg0 hr h hok;have e1:(k==1)=false:=by simpa using ho.1
 have e4:(k==4)=false:=by simpa using ho.2.1
 have e6:(k==6)=false:=by simpa using ho.2.2.1
 have e8:(k==8)=false:=by simpa using ho.2.2.2.1
 have e10:(k==10)=false:=by simpa using ho.2.2.2.2
 go_enter Tryz.func15,Tryz.ntmps15;go_wp2_with fail;rw[←HW.out.1,←HW.out.2];refine wp_region_held_drew (S:=fun w'=>Below W.heap.size W w') rfl (ak b0_) (fun hSw=>?_);refine w_v 0 hSw ?_ (k:=kz37);go_simp;refine w_r 1 fun K hK=>?_;go_simp
 with_reducible refine(HMO.out _ hSw).mono ?_
 rintro e w3 ⟨rfl,hb3⟩;go_simp;refine hK.out _ _ (az hSw hb3) ?_;clear hSw hK K;intro hSw;go_simp;refine w_v 2 hSw ?_ (k:=kz37);go_simp;refine w_v 3 hSw ?_ (k:=kz37);go_simp;refine w_v 4 hSw ?_ (k:=kz37);go_simp;refine w_v 5 hSw ?_ (k:=kz37);go_simp;refine w_v 6 hSw ?_ (k:=kz37);go_simp;refine w_v 7 hSw ?_ (k:=kz37);go_simp;refine w_v 8 hSw ?_ (k:=kz37);go_simp;refine w_v 9 hSw ?_ (k:=kz37);go_simp;refine w_v 10 hSw ?_ (k:=kz37);go_simp;refine w_v 11 hSw ?_ (k:=kz37);go_simp;refine wpAnyH_done (by kernel_rfl) ?_ _;have hb4:=az (ak (Below.refl W.heap.size W)) hb3;clear hSw hb3 HMO;obtain⟨x,y,z⟩:=HK.out _ hb4;have x0:=x.c0;have z1:=z.box.c1;have HME:=H_ (xx z.at_ (by have:=hN.files;omega));have HB4:=H_ hb4;clear x y z hb4;go_wp2_with fail
 with_reducible refine HME.out.mono ?_
 rintro e w4 ⟨rfl,hb5⟩;obtain⟨mt,hmt⟩:=n_ (St.oz V);have HB5:=H_ (az HB4.out hb5);have hb6:=az HB5.out (b_ w4 (.cells #[.int .u64 (mt.floor:Int),.int .u64 (mt.cert:Int),.int .u64 (mt.at_:Int),.int .u64 (mt.lease:Int)] 47));have HX6:=H_ (BoxO.new w4 #[.int .u64 (mt.floor:Int),.int .u64 (mt.cert:Int),.int .u64 (mt.at_:Int),.int .u64 (mt.lease:Int)] 47);have HB6:=H_ hb6;rw[←hmt];unfold Mt.val;have HMT:=H_ hmt;clear hmt hb5 HME x0 z1 hb6;obtain⟨x,y,z⟩:=HK.out _ HB6.out;have x0:=x.c0;have y0:=y.c0;have y1:=y.c1;have y3:=y.c3;have y4:=y.c4;have y5:=y.c5;have z0:=z.box.c0;have z1:=z.box.c1;have HZ:Hid (yw X Y w S V nb ni now grace frm mi none (.returned (.slice none 0 0)) (w4.alloc (.cells #[.int .u64 (mt.floor:Int),.int .u64 (mt.cert:Int),.int .u64 (mt.at_:Int),.int .u64 (mt.lease:Int)] 47))):=H_ ((az1.same HH.out (HB.out.trans (HB6.out.mono HB.out.size))).mute (w:=w) b0_);clear x y z;go_wp2;go_ret;exact HZ.out
theorem yy4 (h:NdAt w X S Y V nb ni now grace) (hN:Nrm V) (frm:Int) (mi no:Nat) (A:Option Addr) (n c:Nat) (l:List It) (hok:Mq.ok ⟨8,frm,ni,mi,no,A,n,c⟩ l=true) (hn:n≤1000) (hr:Row w.heap.size w A n 5 (itc l)) (hfit:∀x∈l,x.fit):
  Calls Tryz.prog 15 #[.pointer (some ⟨nb,0,none⟩),.agg #[.int .i64 8,.int .i64 frm,.int .i64 ni,.int .u64 (mi:Int),.int .u64 (no:Int),.slice A n c]] w (yw X Y w (St.fill S V no l).1 (St.fill S V no l).2.1 nb ni now grace frm mi (if (St.fill S V no l).2.2=true then some (9,no,[]) else none)):=by
 obtain⟨R,hR⟩:=n_ (St.fill S V no l);obtain⟨an,han⟩:∃an:Option (Int×Nat×List It),an=if (St.fill S V no l).2.2=true then some (9,no,[]) else none:=⟨_,rfl⟩
 rw[←han,←hR];rw[←hR]at han;have HR:=H_ (d_ hR han);clear hR han;have hb1:=b_ w (.cells #[.pointer (some ⟨nb,0,none⟩)] 25);have hb2:=hb1.alloc (by simp) (.cells #[.int .i64 8,.int .i64 frm,.int .i64 ni,.int .u64 (mi:Int),.int .u64 (no:Int),.slice A n c] 33);have hx0:=(BoxO.new w #[.pointer (some ⟨nb,0,none⟩)] 25).alloc (.cells #[.int .i64 8,.int .i64 frm,.int .i64 ni,.int .u64 (mi:Int),.int .u64 (no:Int),.slice A n c] 33);have hx1:=BoxO.new (w.alloc (.cells #[.pointer (some ⟨nb,0,none⟩)] 25)) #[.int .i64 8,.int .i64 frm,.int .i64 ni,.int .u64 (mi:Int),.int .u64 (no:Int),.slice A n c] 33;rw[A_]at hx1;have h2:=h.below hb2;have hmf:∀(fn:Fn) (first cap:Array Value) (w:World),(Instr.makeFunc fn first cap).run Tryz.prog w=.ok (.func fn first cap) w:=fun _ _ _ _=>rfl;obtain⟨W,hW⟩:=n_ ((w.alloc (.cells #[.pointer (some ⟨nb,0,none⟩)] 25)).alloc (.cells #[.int .i64 8,.int .i64 frm,.int .i64 ni,.int .u64 (mi:Int),.int .u64 (no:Int),.slice A n c] 33));obtain⟨g0,hg0⟩:=n_ w.heap.size;rw[←hW]at hb2 hx0 hx1 h2;rw[←hg0]at hx0 hx1;have hmo:=fun W' (hb:Below W.heap.size W W')=>lq2 ⟨8,frm,ni,mi,no,A,n,c⟩ l W' (by simp only;omega) ((((hr.below hb2).up hb2.size).below hb).up hb.size);simp only[hok]at hmo;unfold Mq.val at hmo;simp only at hmo;have HMO:=H_ hmo;have H2:=H_ h2;have HX:=H_ (d_ hx0 hx1);have HB:=H_ hb2;have HW:=H_ (d_ hW hg0);have HROW:=H_ ((hr.below hb2).up hb2.size);have HL:=H_ (d_ h.at_.lt (d_ h.box.lt h.at_.dm.env.base));have HK:=H_ (fun W' (hb:Below W.heap.size W W')=>d_ (hx0.below hb) (d_ (hx1.below hb) (h2.below hb)));have HH:=H_ h;clear hmo h2 hx0 hx1 hb1 hb2 hW hg0 hr h hok;go_enter Tryz.func15,Tryz.ntmps15;go_wp2_with fail;rw[←HW.out.1,←HW.out.2];refine wp_region_held_drew (S:=fun w'=>Below W.heap.size W w') rfl (ak b0_) (fun hSw=>?_);refine w_v 0 hSw ?_ (k:=kz37);go_simp;refine w_r 1 fun K hK=>?_;go_simp
 with_reducible refine(HMO.out _ hSw).mono ?_
 rintro e w3 ⟨rfl,hb3⟩;go_simp;refine hK.out _ _ (az hSw hb3) ?_;clear hSw hK K;intro hSw;go_simp;refine w_v 2 hSw ?_ (k:=kz37);go_simp;refine w_v 3 hSw ?_ (k:=kz37);go_simp;refine w_v 4 hSw ?_ (k:=kz37);go_simp;refine w_v 5 hSw ?_ (k:=kz37);go_simp;refine w_v 6 hSw ?_ (k:=kz37);go_simp;refine w_v 7 hSw ?_ (k:=kz37);go_simp;refine w_v 8 hSw ?_ (k:=kz37);go_simp;refine w_v 9 hSw ?_ (k:=kz37);go_simp;refine w_v 10 hSw ?_ (k:=kz37);go_simp;refine w_v 11 hSw ?_ (k:=kz37);go_simp;refine wpAnyH_done (by kernel_rfl) ?_ _;have hb4:=az (ak (Below.refl W.heap.size W)) hb3;clear hSw hb3 HMO;obtain⟨x,y,z⟩:=HK.out _ hb4;have x0:=x.c0;have z1:=z.box.c1;have HME:=H_ (xx z.at_ (by have:=hN.files;omega));have HB4:=H_ hb4;clear x y z hb4;go_wp2_with fail
 with_reducible refine HME.out.mono ?_
 rintro e w4 ⟨rfl,hb5⟩;obtain⟨mt,hmt⟩:=n_ (St.oz V);have HB5:=H_ (az HB4.out hb5);have hb6:=az HB5.out (b_ w4 (.cells #[.int .u64 (mt.floor:Int),.int .u64 (mt.cert:Int),.int .u64 (mt.at_:Int),.int .u64 (mt.lease:Int)] 47));have HX6:=H_ (BoxO.new w4 #[.int .u64 (mt.floor:Int),.int .u64 (mt.cert:Int),.int .u64 (mt.at_:Int),.int .u64 (mt.lease:Int)] 47);have HB6:=H_ hb6;rw[←hmt];unfold Mt.val;have HMT:=H_ hmt;clear hmt hb5 HME x0 z1 hb6;obtain⟨x,y,z⟩:=HK.out _ HB6.out;have x0:=x.c0;have y0:=y.c0;have y1:=y.c1;have y3:=y.c3;have y4:=y.c4;have y5:=y.c5;have z0:=z.box.c0;have z1:=z.box.c1;obtain⟨hl1,hl2,hl3⟩:=HL.out;have hgx:∀g,w.heap.size≤g→g∉XY X Y:=fun g hg hm=>by have:=hl1 g hm;omega
 have hnf:=gx4 z hN 8 frm ni mi no A n c l hn ((HROW.out.below HB6.out).up HB6.out.size) hfit;rw[←HMT.out]at hnf;unfold Mt.val at hnf;rw[←HR.out.1]at hnf;obtain⟨S1,V1,b⟩:=R;simp only at hnf ⊢;have HAN0:=H_ (show an=if b=true then some (9,no,[]) else none from HR.out.2);clear HR;have HNF:=H_ hnf;have HXY:=H_ (d_ x y);have HGX:=H_ hgx;have y2:=y.c2;clear hnf hl1 hl2 hl3 hgx x y z;go_wp2_with fail
 with_reducible refine HNF.out.mono ?_
 rintro e w8 ⟨rfl,hu⟩;have HU:=H_ hu;clear x0 y0 y1 y3 y4 y5 z0 z1 y2
 cases b with
 |false=>
  have HZ:Hid (yw X Y w S1 V1 nb ni now grace frm mi an (.returned (.slice none 0 0)) w8):=H_ (by
   rw[HAN0.out,if_neg (by simp)];exact HU.out.mute (HB.out.trans (HB6.out.mono HB.out.size)))
  clear hu;go_wp2;go_ret;exact HZ.out
 |true=>
  obtain⟨X1,Y1,e1,es,h8,c8,f8,_⟩:=hu;have hg:=HW.out.2;have q0:=(HXY.out.1.chg c8 (HGX.out _ (by omega))).c0;have q1:=(HXY.out.2.chg c8 (HGX.out _ (by omega))).c1;have q3:=(HXY.out.2.chg c8 (HGX.out _ (by omega))).c3;have q4:=(HXY.out.2.chg c8 (HGX.out _ (by omega))).c4;have p0:=h8.box.c0;have HAN:=H_ (ak1 g0 (g0+1) nb frm ni 9 mi no none 0 0 w8 q0 p0 q1 q3);have HZ:Hid (∀e w',e=.returned (.slice (some ⟨w8.heap.size,0,none⟩) 1 1)→Below w8.heap.size w8 w'→Answ w' w8.heap.size 9 ni frm mi no none 0 0→yw X Y w S1 V1 nb ni now grace frm mi an e w'):=H_ (by
   intro e w' h1 h2 h3;rw[HAN0.out,if_pos rfl];exact HU.out.told (HB.out.trans (HB6.out.mono HB.out.size)) Row.nil_ (fun a ha=>by cases ha) h1 h2 h3)
  clear hg e1 es h8 c8 f8;go_wp2_with fail
  with_reducible refine HAN.out.mono ?_
  rintro e w9 ⟨rfl,h9,ha9⟩;have HY:=H_ (HZ.out _ _ rfl h9 ha9);clear h9 ha9 HZ HAN q0 q1 q3 q4 p0;go_wp2;go_ret;exact HY.out
end
section
open Go
namespace Nd
structure NS (q:Int) (S:Sd) (V:Sv) (c d:Nat):Prop where
 calm:Calm S
 quota:S.quota=q
 only:V.only=false
 nm:V.nm=St.jy
 log:∃t,cont S St.jy=some t∧t.length≤c
 man:∃t,cont S (Mw.man 1)=some t∧t.length≤d
 small:Small S [St.jy,Mw.man 1,Mw.kCur] 70000
 sz:V.sz≤c
 ct:V.ct≤c
 mem:V.mem.length≤c
 tabs:V.tabs=[]
 st:Stt V.st
 name:V.M.name=Mw.man 1
 br:V.M.broken=false
 ok:V.M.v.ok=true
 files:V.M.v.files=[]
 count:V.M.count≤d
def v0:Sv:=⟨{ St.first with name:=Mw.man 1,count:=1 },St.jy,0,0,[],[],[],false⟩
theorem born (q:Int) (h1:500000≤q) (h2:q≤1099511627776):∃S,St.create (Sd.new q)=(S,some v0,0)∧NS q S v0 0 100:=by
 have hc:=Calm.new q h2;obtain⟨d6,q1,q2,q3,q4⟩:=tv2 (K:=[]) (B:=2100) hc ⟨fun s x hx=>(by rw[Calm.vk1]at hx;cases hx),fun s x hx=>(by rw[Calm.vk1]at hx;cases hx)⟩ (by simp) (fun s x hx=>(by rw[Calm.vk1]at hx;cases hx)) l_ (by simp[Sd.new];omega);have n1:St.jy≠Mw.jk:=by decide
 have n2:St.jy≠Mw.kCur:=by decide
 have n3:St.jy≠Mw.man 1:=by decide+kernel
 have n4:Mw.man 1≠Mw.jk:=by decide+kernel
 have n5:Mw.man 1≠Mw.kCur:=by decide+kernel
 have hl1:St.first.v.whole.rec_.length≤100:=by decide+kernel
 have hl2:(Mw.headB 1).length≤70000:=by decide+kernel
 refine⟨d6,q1,q2,by rw[q3];simp[Sd.new];omega,rfl,rfl,⟨[],?_,t_ _⟩,⟨St.first.v.whole.rec_,?_,hl1⟩,⟨fun s x hx=>?_,fun s x hx=>?_⟩,t_ _,t_ _,t_ _,rfl,Stt.nil,rfl,rfl,by decide+kernel,rfl,by decide⟩
 ·rw[q4]
  unfold upd;rw[if_neg n1,if_neg n2,if_neg n1,if_neg n3,if_pos rfl]
 ·rw[q4]
  unfold upd;rw[if_neg n4,if_neg n5,if_neg n4,if_pos rfl]
 all_goals
  rw[q4,Calm.vk1]at hx;unfold upd at hx;split at hx
  ·cases hx
  ·split at hx
   ·injection hx with hx
    subst_vars
    first|simp|exact hl2
   ·split at hx
    ·injection hx with hx
     subst_vars
     first|simp|omega
    ·split at hx
     ·injection hx with hx
      subst_vars;simp
     ·cases hx
variable {q:Int} {S:Sd} {V:Sv} {c d:Nat}
theorem NS.nrm (h:NS q S V c d) (hc:c≤100000) (hd:d≤100000) (hl:V.st.length≤1500):Nrm V:=⟨h.tabs,h.st,hl,by have:=h.sz;omega,by have:=h.ct;omega,by have:=h.mem;omega,by rw[h.nm];decide,by rw[h.files];simp,by have:=h.count;omega,by rw[h.name];decide+kernel⟩
theorem NS.sync (h:NS q S V c d):∃S',St.sync S V=(S',V,0)∧NS q S' V c d:=by
 obtain⟨t,ht,_⟩:=h.log;obtain⟨a1,a2,a3,a4⟩:=h.calm.sync (s:=St.jy) (by decide+kernel) ht;refine⟨(S.sync St.jy).1,?_,⟨a2,by rw[a4,h.quota],h.only,h.nm,by rw[a3];exact h.log,by rw[a3];exact h.man,⟨by rw[a3];exact h.small.names,by rw[a3];exact h.small.len⟩,h.sz,h.ct,h.mem,h.tabs,h.st,h.name,h.br,h.ok,h.files,h.count⟩⟩;unfold St.sync;rw[if_neg (by rw[h.only];simp),h.nm,if_pos a1]
theorem NS.apply (h:NS q S V c d) (hq:500000≤q) (hc:c+2000≤70000) {l:List It} (h0:l≠[]) (ha:l.all It.ok=true) (hl:l.length≤60) (hj:(joins V.st l).length≤1500):
  ∃S' V',St.apply S V l=(S',V',0)∧NS q S' V' (c+(22+32 *l.length)) d∧V'.st=joins V.st l∧V'.M=V.M:=by
 have hb:=Lg.pw2 l;obtain⟨t,ht,hc0⟩:=h.log;obtain⟨t2,ht2,hd0⟩:=h.man;obtain⟨ln,lu⟩:=h.calm.qj h.small;have n3:Mw.man 1≠St.jy:=by decide+kernel
 obtain⟨a1,a2,a3,a4⟩:=h.calm.append (s:=St.jy) (by decide+kernel) ht (Lg.batch l) (by omega) (by have:=h.quota;simp at lu;omega);refine⟨_,{ V with sz:=V.sz+(Lg.batch l).length,ct:=V.ct+1,mem:=l.foldl wput V.mem,st:=joins V.st l },?_,⟨a2,by rw[a4,h.quota],h.only,h.nm,⟨t++Lg.batch l,?_,?_⟩,⟨t2,?_,hd0⟩,⟨fun s x hx=>?_,fun s x hx=>?_⟩,?_,?_,?_,h.tabs,(vx2 l h.st).1,h.name,h.br,h.ok,h.files,h.count⟩,rfl,rfl⟩
 ·unfold St.apply
  rw[if_neg (by rw[h.only];simp),if_neg (by simp[h0,ha]),if_neg (by omega),if_neg (by omega),h.nm];simp only[a1];simp
 ·rw[a3,upd,if_pos rfl]
 ·rw[e_]
  omega
 ·rw[a3,upd,if_neg n3]
  exact ht2
 ·rw[a3,upd]at hx
  split at hx
  ·subst_vars;simp
  ·exact h.small.names s x hx
 ·rw[a3,upd]at hx
  split at hx
  ·injection hx with hx
   rw[←hx,e_];omega
  ·exact h.small.len s x hx
 ·have:=h.sz
  simp only;omega
 ·have:=h.ct
  simp only;omega
 ·have:=pw1 l V.mem
  have:=h.mem;simp only;omega
theorem NS.mono {c' d':Nat} (h:NS q S V c d) (hc:c≤c') (hd:d≤d'):NS q S V c' d':=⟨h.calm,h.quota,h.only,h.nm,let ⟨t,a,b⟩:=h.log;⟨t,a,by omega⟩,let ⟨t,a,b⟩:=h.man;⟨t,a,by omega⟩,h.small,by have:=h.sz;omega,by have:=h.ct;omega,by have:=h.mem;omega,h.tabs,h.st,h.name,h.br,h.ok,h.files,by have:=h.count;omega⟩
end Nd
end
end Go.Proofs.YthjdpplgfdihoaaGreatDoor
