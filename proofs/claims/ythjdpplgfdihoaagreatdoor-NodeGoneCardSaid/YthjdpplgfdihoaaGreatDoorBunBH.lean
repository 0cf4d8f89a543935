/- Texts NodN, NodO in one. No conditions. -/
import Derived.Test.YthjdpplgfdihoaaGreatDoorBunBE
import Derived.Test.YthjdpplgfdihoaaGreatDoorBunBF

set_option linter.unusedSimpArgs false
set_option linter.unusedVariables false
set_option maxRecDepth 100000
set_option maxHeartbeats 16000000
namespace Go.Proofs.YthjdpplgfdihoaaGreatDoor
section
open Go Go.RowKit Go.Lib Go.Shelf
set_option linter.unusedSimpArgs false
variable {w w1 w2:World} {X X1 X2:Dw} {S S1 S2:Sd} {Y Y1 Y2:Yw} {V V1 V2:Sv} {nb now grace:Nat} {ni:Int}
theorem kj3 {α:Type} {Q:α→Prop} {a:α} (h:Q a):∃b,b=a∧Q b:=⟨a,rfl,h⟩
theorem ew3 {b:Nat} {cs:Array Value} {e:TypeId} (_:Below b w1 (w.alloc (.cells cs e)).drew):BoxO (w.alloc (.cells cs e)).drew e w.heap.size cs.toList:=BoxO.new _ _ _
theorem iy2 {b:Nat} {cs:Array Value} {e:TypeId} (_:Below b w1 (w.alloc (.cells cs e))):BoxO (w.alloc (.cells cs e)) e w.heap.size cs.toList:=BoxO.new _ _ _
def St.even (S:Sd) (V:Sv) (f now:Nat):Sd×Sv:=if f≤V.M.v.cert∨V.M.v.floor < f then (S,V) else ((St.setMeta S V { St.oz V with cert:=f,at_:=now }).1,(St.setMeta S V { St.oz V with cert:=f,at_:=now }).2.1)
theorem kz2 {P S a oi v} (h:Hv P S a oi v:=by intro w hSw;(obtain⟨x,y,z⟩:=HK.out _ hSw;have x0:=x.c0;have y0:=y.c0;have y1:=y.c1;have y2:=y.c2;have y3:=y.c3;have y4:=y.c4;have y5:=y.c5;have z0:=z.box.c0;clear x y z);go_simp;try (with_reducible rfl)):Hv P S a oi v:=h
theorem kz3 {P S a oi v} (h:Hv P S a oi v:=by intro w hSw;(obtain⟨x,y,z⟩:=HK.out _ (az HB7.out hSw);have hm:=HX7.out.below hSw;have x0:=x.c0;have y4:=y.c4;have z2:=z.box.c2;have m0:=hm.c0;have m1:=hm.c1;have m2:=hm.c2;have m3:=hm.c3;clear x y z hm);go_simp;try (with_reducible rfl)):Hv P S a oi v:=h
theorem kz4 {P S a oi v} (h:Hv P S a oi v:=by intro w hSw;(obtain⟨x,y,z⟩:=hSw;have x0:=x.c0;have z1:=z.c1;have m0:=y.c0;have m1:=y.c1;have m2:=y.c2;have m3:=y.c3;clear x y z);go_simp;try (with_reducible rfl)):Hv P S a oi v:=h
theorem xy4 (h:NdAt w X S Y V nb ni now grace) (hN:Nrm V) (frm:Int) (mi no:Nat) (A:Option Addr) (n c:Nat) (l:List It) (hok:Mq.ok ⟨10,frm,ni,mi,no,A,n,c⟩ l=true) (hn:n≤1000) (hr:Row w.heap.size w A n 5 (itc l)) (hnow:now≤281474976710656∧(now=0→V.M.v.at_=0)) (hmc:V.M.v.floor≤281474976710656∧V.M.v.lease≤281474976710656):
  Calls Tryz.prog 15 #[.pointer (some ⟨nb,0,none⟩),.agg #[.int .i64 10,.int .i64 frm,.int .i64 ni,.int .u64 (mi:Int),.int .u64 (no:Int),.slice A n c]] w (yw X Y w (St.even S V no now).1 (St.even S V no now).2 nb ni now grace frm mi none):=by
 obtain⟨R,hR⟩:=n_ (St.even S V no now);rw[←hR];unfold St.even at hR;have HR:=H_ hR;clear hR;have hb1:=b_ w (.cells #[.pointer (some ⟨nb,0,none⟩)] 25);have hb2:=hb1.alloc (by simp) (.cells #[.int .i64 10,.int .i64 frm,.int .i64 ni,.int .u64 (mi:Int),.int .u64 (no:Int),.slice A n c] 33);have hx0:=(BoxO.new w #[.pointer (some ⟨nb,0,none⟩)] 25).alloc (.cells #[.int .i64 10,.int .i64 frm,.int .i64 ni,.int .u64 (mi:Int),.int .u64 (no:Int),.slice A n c] 33);have hx1:=BoxO.new (w.alloc (.cells #[.pointer (some ⟨nb,0,none⟩)] 25)) #[.int .i64 10,.int .i64 frm,.int .i64 ni,.int .u64 (mi:Int),.int .u64 (no:Int),.slice A n c] 33;rw[A_]at hx1;have h2:=h.below hb2;have hmf:∀(fn:Fn) (first cap:Array Value) (w:World),(Instr.makeFunc fn first cap).run Tryz.prog w=.ok (.func fn first cap) w:=fun _ _ _ _=>rfl;obtain⟨W,hW⟩:=n_ ((w.alloc (.cells #[.pointer (some ⟨nb,0,none⟩)] 25)).alloc (.cells #[.int .i64 10,.int .i64 frm,.int .i64 ni,.int .u64 (mi:Int),.int .u64 (no:Int),.slice A n c] 33));obtain⟨g0,hg0⟩:=n_ w.heap.size;rw[←hW]at hb2 hx0 hx1 h2;rw[←hg0]at hx0 hx1;have hmo:=fun W' (hb:Below W.heap.size W W')=>lq2 ⟨10,frm,ni,mi,no,A,n,c⟩ l W' (by simp only;omega) ((((hr.below hb2).up hb2.size).below hb).up hb.size);simp only[hok]at hmo;unfold Mq.val at hmo;simp only at hmo;have HMO:=H_ hmo;have H2:=H_ h2;have HX:=H_ (d_ hx0 hx1);have HB:=H_ hb2;have HW:=H_ (d_ hW hg0);have HROW:=H_ ((hr.below hb2).up hb2.size);have HL:=H_ (d_ h.at_.lt (d_ h.box.lt h.at_.dm.env.base));have HK:=H_ (fun W' (hb:Below W.heap.size W W')=>d_ (hx0.below hb) (d_ (hx1.below hb) (h2.below hb)));have HH:=H_ h;have HNOW:=H_ (d_ hnow hmc);clear hnow hmc;clear hmo h2 hx0 hx1 hb1 hb2 hW hg0 hr h hok;go_enter Tryz.func15,Tryz.ntmps15;go_wp2_with fail;rw[←HW.out.1,←HW.out.2];refine wp_region_held_drew (S:=fun w'=>Below W.heap.size W w') rfl (ak b0_) (fun hSw=>?_);refine w_v 0 hSw ?_ (k:=kz2);go_simp;refine w_r 1 fun K hK=>?_;go_simp
 with_reducible refine(HMO.out _ hSw).mono ?_
 rintro e w3 ⟨rfl,hb3⟩;go_simp;refine hK.out _ _ (az hSw hb3) ?_;clear hSw hK K;intro hSw;go_simp;refine w_v 2 hSw ?_ (k:=kz2);go_simp;refine w_v 3 hSw ?_ (k:=kz2);go_simp;refine w_v 4 hSw ?_ (k:=kz2);go_simp;refine w_v 5 hSw ?_ (k:=kz2);go_simp;refine w_v 6 hSw ?_ (k:=kz2);go_simp;refine w_v 7 hSw ?_ (k:=kz2);go_simp;refine w_v 8 hSw ?_ (k:=kz2);go_simp;refine w_v 9 hSw ?_ (k:=kz2);go_simp;refine w_v 10 hSw ?_ (k:=kz2);go_simp;refine w_v 11 hSw ?_ (k:=kz2);go_simp;refine wpAnyH_done (by kernel_rfl) ?_ _;have hb4:=az (ak (Below.refl W.heap.size W)) hb3;clear hSw hb3 HMO;obtain⟨x,y,z⟩:=HK.out _ hb4;have x0:=x.c0;have z1:=z.box.c1;have HME:=H_ (xx z.at_ (by have:=hN.files;omega));have HB4:=H_ hb4;clear x y z hb4;go_wp2_with fail
 with_reducible refine HME.out.mono ?_
 rintro e w4 ⟨rfl,hb5⟩;obtain⟨mt,hmt⟩:=n_ (St.oz V);have HB5:=H_ (az HB4.out hb5);have hb6:=az HB5.out (b_ w4 (.cells #[.int .u64 (mt.floor:Int),.int .u64 (mt.cert:Int),.int .u64 (mt.at_:Int),.int .u64 (mt.lease:Int)] 47));have HX6:=H_ (BoxO.new w4 #[.int .u64 (mt.floor:Int),.int .u64 (mt.cert:Int),.int .u64 (mt.at_:Int),.int .u64 (mt.lease:Int)] 47);have HB6:=H_ hb6;rw[←hmt];unfold Mt.val;have HMT:=H_ hmt;clear hmt hb5 HME x0 z1 hb6;obtain⟨x,y,z⟩:=HK.out _ HB6.out;have x0:=x.c0;have y0:=y.c0;have y1:=y.c1;have y3:=y.c3;have y4:=y.c4;have y5:=y.c5;have z0:=z.box.c0;have z1:=z.box.c1;clear x y z;obtain⟨W6,hW6⟩:=n_ (w4.alloc (.cells #[.int .u64 (mt.floor:Int),.int .u64 (mt.cert:Int),.int .u64 (mt.at_:Int),.int .u64 (mt.lease:Int)] 47));have HB7:Hid (Below W.heap.size W W6):=H_ (by rw[hW6];exact HB6.out);have HX7:Hid (BoxO W6 47 w4.heap.size [.int .u64 (mt.floor:Int),.int .u64 (mt.cert:Int),.int .u64 (mt.at_:Int),.int .u64 (mt.lease:Int)]):=H_ (by rw[hW6];exact HX6.out);have HW6:=H_ hW6;have hsl:=fun W' (_:Below W6.heap.size W6 W')=>ev4 mt no now W' HNOW.out.1.1;unfold Mt.val at hsl;simp only at hsl;have HSL:=H_ hsl;clear hsl hW6;have hR:=HR.out;rw[show V.M.v.floor=mt.floor by rw[HMT.out];rfl,show V.M.v.cert=mt.cert by rw[HMT.out];rfl]at hR;have HR1:=H_ hR;clear hR HR
 by_cases hlt:no≤mt.cert∨mt.floor < no
 ·have hsl:=HSL.out
  rw[if_pos hlt]at hsl;have HS2:=H_ hsl;have hR:=HR1.out;rw[if_pos hlt]at hR;have HR2:=H_ hR;have HZ:Hid (∀w',Below W6.heap.size W6 w'→yw X Y w R.1 R.2 nb ni now grace frm mi none (.returned (.slice none 0 0)) w'):=H_ (fun w' hb=>by
   rw[HR2.out];exact((az1.same HH.out (HB.out.trans ((az HB7.out hb).mono HB.out.size))).mute (w:=w) b0_))
  clear hsl HSL hlt hR HR1;go_wp2_with fail;rw[←HW6.out];refine wp_region_held_drew (S:=fun w'=>Below W6.heap.size W6 w') rfl (ak b0_) (fun hSw=>?_);refine w_v 0 hSw ?_ (k:=kz3);go_simp;refine w_v 1 hSw ?_ (k:=kz3);go_simp;refine w_v 2 hSw ?_ (k:=kz3);go_simp;refine w_v 3 hSw ?_ (k:=kz3);go_simp;refine w_v 4 hSw ?_ (k:=kz3);go_simp;refine w_v 5 hSw ?_ (k:=kz3);go_simp;refine w_v 6 hSw ?_ (k:=kz3);go_simp;refine wpAnyH_ready (rs:=[7,11]) (by kernel_rfl) (by simp) ?_;refine AllReadyH.cons rfl (fun K hK=>?_) (AllReadyH.cons rfl (fun K hK=>?_) AllReadyH.nil)
  ·go_simp
   with_reducible refine(HS2.out _ hSw).mono ?_
   rintro e w7 ⟨rfl,hb7⟩;go_simp;refine hK.out _ _ (az hSw hb7) ?_;clear hSw hK K;intro hSw;go_simp
   (have hs7:=hSw;first|have hbx:=hbx.below hb7|skip);(refine w_v 8 hSw ?_ (k:=kz3);go_simp);(refine w_v 9 hSw ?_ (k:=kz3);go_simp);(refine w_v 10 hSw ?_ (k:=kz3);go_simp)
   refine w_r 11 fun K hK=>?_
   ·have hge:=hSw.size
    go_simp;refine hK.out _ _ (hSw.alloc hSw.size _) ?_;clear hSw hK K;intro hSw;go_simp
    first|have hbx:=iy2 hSw|have hbx:=ew3 hSw
    refine w_r 12 fun K hK=>?_
    (have f0:=hbx.free 0;have f1:=hbx.free 1;have f2:=hbx.free 2;have f3:=hbx.free 3;have p0:=hbx.c0;have p1:=hbx.c1;have p2:=hbx.c2;have p3:=hbx.c3)
    go_simp;refine hK.out _ _ (by with_reducible first|exact hs7.alloc hge _|exact(((hSw.setCell hge _).setCell hge _).setCell hge _).setCell hge _) ?_;clear hSw hK K;intro hSw;go_simp;refine w_v 13 hSw ?_ (k:=kz3);go_simp;refine wpAnyH_done (by kernel_rfl) ?_ _;have HY:=H_ (HZ.out _ hSw);clear hSw hbx hge hb7 hs7 HS2 HZ;go_wp2;go_ret;exact HY.out
  ·have hge:=hSw.size
   go_simp;refine hK.out _ _ (hSw.alloc hSw.size _) ?_;clear hSw hK K;intro hSw;go_simp
   first|have hbx:=iy2 hSw|have hbx:=ew3 hSw
   refine w_r 7 fun K hK=>?_
   ·go_simp
    with_reducible refine(HS2.out _ hSw).mono ?_
    rintro e w7 ⟨rfl,hb7⟩;go_simp;refine hK.out _ _ (az hSw hb7) ?_;clear hSw hK K;intro hSw;go_simp
    (have hs7:=hSw;first|have hbx:=hbx.below hb7|skip);(refine w_v 8 hSw ?_ (k:=kz3);go_simp);(refine w_v 9 hSw ?_ (k:=kz3);go_simp);(refine w_v 10 hSw ?_ (k:=kz3);go_simp)
    refine w_r 12 fun K hK=>?_
    (have f0:=hbx.free 0;have f1:=hbx.free 1;have f2:=hbx.free 2;have f3:=hbx.free 3;have p0:=hbx.c0;have p1:=hbx.c1;have p2:=hbx.c2;have p3:=hbx.c3)
    go_simp;refine hK.out _ _ (by with_reducible first|exact hs7.alloc hge _|exact(((hSw.setCell hge _).setCell hge _).setCell hge _).setCell hge _) ?_;clear hSw hK K;intro hSw;go_simp;refine w_v 13 hSw ?_ (k:=kz3);go_simp;refine wpAnyH_done (by kernel_rfl) ?_ _;have HY:=H_ (HZ.out _ hSw);clear hSw hbx hge hb7 hs7 HS2 HZ;go_wp2;go_ret;exact HY.out
 ·have hsl:=HSL.out
  rw[if_neg hlt]at hsl;have HS2:=H_ hsl;have hR:=HR1.out;rw[if_neg hlt]at hR;have hmm:St.tz1 { St.oz V with cert:=no,at_:=now } (St.oz V):=by
   obtain⟨⟨q1,q2⟩,q3,q4⟩:=HNOW.out;have ef:mt.floor=V.M.v.floor:=by rw[HMT.out];rfl
   exact⟨⟨q3,fun e=>e⟩,⟨by show no≤_;omega,fun e=>by have e2:no=0:=e;omega⟩,⟨q1,q2⟩,⟨q4,fun e=>e⟩⟩
  have ee:({ St.oz V with cert:=no,at_:=now }:Mt)={ mt with cert:=no,at_:=now }:=by rw[HMT.out]
  rw[ee]at hR hmm;obtain⟨r,hr⟩:∃r,r=St.setMeta S V { mt with cert:=no,at_:=now }:=⟨_,rfl⟩;have hvs:=fun W' (hb:Below W6.heap.size W6 W')=>ux1 (HK.out _ (az HB7.out hb)).2.2.at_ { mt with cert:=no,at_:=now } hmm hN.files (by have:=hN.count;omega) hN.name;rw[←hr]at hvs hR;obtain⟨S1,V1,er⟩:=r;unfold uy Mt.val at hvs;simp only at hvs hR;have HVS:=H_ hvs;have HR3:=H_ hR;clear hsl HSL hlt hR HR1 hmm ee hvs hr;go_wp2_with fail;rw[←HW6.out];refine wp_region_held_drew (S:=fun w'=>Below W6.heap.size W6 w') rfl (ak b0_) (fun hSw=>?_);refine w_v 0 hSw ?_ (k:=kz3);go_simp;refine w_v 1 hSw ?_ (k:=kz3);go_simp;refine w_v 2 hSw ?_ (k:=kz3);go_simp;refine w_v 3 hSw ?_ (k:=kz3);go_simp;refine w_v 4 hSw ?_ (k:=kz3);go_simp;refine w_v 5 hSw ?_ (k:=kz3);go_simp;refine w_v 6 hSw ?_ (k:=kz3);go_simp;refine wpAnyH_ready (rs:=[7,11]) (by kernel_rfl) (by simp) ?_;refine AllReadyH.cons rfl (fun K hK=>?_) (AllReadyH.cons rfl (fun K hK=>?_) AllReadyH.nil)
  ·go_simp
   with_reducible refine(HS2.out _ hSw).mono ?_
   rintro e w7 ⟨rfl,hb7⟩;go_simp;refine hK.out _ _ (az hSw hb7) ?_;clear hSw hK K;intro hSw;go_simp
   (have hs7:=hSw;first|have hbx:=hbx.below hb7|skip);(refine w_v 8 hSw ?_ (k:=kz3);go_simp);(refine w_v 9 hSw ?_ (k:=kz3);go_simp);(refine w_v 10 hSw ?_ (k:=kz3);go_simp)
   refine w_r 11 fun K hK=>?_
   ·have hge:=hSw.size
    go_simp;refine hK.out _ _ (hSw.alloc hSw.size _) ?_;clear hSw hK K;intro hSw;go_simp
    first|have hbx:=iy2 hSw|have hbx:=ew3 hSw
    refine w_r 12 fun K hK=>?_
    (have f0:=hbx.free 0;have f1:=hbx.free 1;have f2:=hbx.free 2;have f3:=hbx.free 3;have p0:=hbx.c0;have p1:=hbx.c1;have p2:=hbx.c2;have p3:=hbx.c3)
    go_simp;refine hK.out _ _ (by with_reducible first|exact hs7.alloc hge _|exact(((hSw.setCell hge _).setCell hge _).setCell hge _).setCell hge _) ?_;clear hSw hK K;intro hSw;go_simp;refine w_v 13 hSw ?_ (k:=kz3);go_simp;refine wpAnyH_done (by kernel_rfl) ?_ _;clear HS2;go_wp2_with fail
    first|(with_reducible have hby:=iy2 hSw)|have hby:=(((hbx.store 0 (.int .u64 (mt.floor:Int))).store 1 (.int .u64 (no:Int))).store 2 (.int .u64 (now:Int))).store 3 (.int .u64 (mt.lease:Int))
    simp only[ak_,ac_]at hby;obtain⟨W8,hW8,h8,hby⟩:=kj3 (Q:=fun W=>Below W6.heap.size W6 W∧BoxO W 47 _ [.int .u64 (mt.floor:Int),.int .u64 (no:Int),.int .u64 (now:Int),.int .u64 (mt.lease:Int)]) ⟨hSw,hby⟩;obtain⟨g8,hg8,hby,hge8⟩:=kj3 (Q:=fun g=>BoxO W8 47 g [.int .u64 (mt.floor:Int),.int .u64 (no:Int),.int .u64 (now:Int),.int .u64 (mt.lease:Int)]∧W6.heap.size≤g) ⟨hby,hge⟩;rw[←hW8];rw[←hg8];have hd8:Below W8.heap.size W8 W8.drew:=ak b0_;have hVW:=HVS.out _ (az h8 hd8);obtain⟨x,y,z⟩:=HK.out _ (az HB7.out (az h8 hd8));have HVW:=H_ hVW;have HBW:=H_ (HB.out.trans ((az HB7.out (az h8 hd8)).mono HB.out.size));have HZZ:=H_ z;have HGX:=H_ (show ∀g,w.heap.size≤g→g∉XY X Y from fun g hg hm=>by have:=HL.out.1 g hm;omega);have HG8:=H_ (h_ (h_ HB.out.size HB7.out.size) hge8);have hS0:BoxO W8.drew 25 g0 [.pointer (some ⟨nb,0,none⟩)]∧BoxO W8.drew 47 g8 [.int .u64 (mt.floor:Int),.int .u64 (no:Int),.int .u64 (now:Int),.int .u64 (mt.lease:Int)]∧BoxO W8.drew 101 nb [.int .i64 ni,.pointer (some ⟨Y.s,0,none⟩),.int .u64 (now:Int),.int .u64 (grace:Int)]:=⟨x,hby,z.box⟩;clear hSw hbx hby hge hb7 hs7 x y z HVS h8 hd8 hVW hge8 hg8 hW8;refine wp_region_held_drew (S:=fun w'=>BoxO w' 25 g0 [.pointer (some ⟨nb,0,none⟩)]∧BoxO w' 47 g8 [.int .u64 (mt.floor:Int),.int .u64 (no:Int),.int .u64 (now:Int),.int .u64 (mt.lease:Int)]∧BoxO w' 101 nb [.int .i64 ni,.pointer (some ⟨Y.s,0,none⟩),.int .u64 (now:Int),.int .u64 (grace:Int)]) rfl hS0 (fun hSw=>?_)
    (refine w_v 0 hSw ?_ (k:=kz4);go_simp)
    (refine w_v 1 hSw ?_ (k:=kz4);go_simp)
    (refine w_v 2 hSw ?_ (k:=kz4);go_simp)
    (refine w_v 3 hSw ?_ (k:=kz4);go_simp)
    (refine w_v 4 hSw ?_ (k:=kz4);go_simp)
    refine w_r 5 fun K hK=>?_;go_simp
    with_reducible refine HVW.out.mono ?_
    rintro e w10 ⟨rfl,hu⟩;go_simp;refine hK.out _ _ ⟨hSw.1.chg hu.c (HGX.out _ (by have:=HW.out.2;omega)),hSw.2.1.chg hu.c (HGX.out _ HG8.out),hSw.2.2.chg hu.c HZZ.out.out⟩ (fun hSn=>?_);clear hK K hSw hSn;go_simp;refine wpAnyH_done (by kernel_rfl) ?_ _;have hz:yw X Y w R.1 R.2 nb ni now grace frm mi none (.returned (.slice none 0 0)) w10:=by rw[HR3.out];exact(HZZ.out.upd hu).mute HBW.out
    have HZ:=H_ hz;clear hz hu HZZ HVW HBW;go_wp2;go_ret;exact HZ.out
  ·have hge:=hSw.size
   go_simp;refine hK.out _ _ (hSw.alloc hSw.size _) ?_;clear hSw hK K;intro hSw;go_simp
   first|have hbx:=iy2 hSw|have hbx:=ew3 hSw
   refine w_r 7 fun K hK=>?_
   ·go_simp
    with_reducible refine(HS2.out _ hSw).mono ?_
    rintro e w7 ⟨rfl,hb7⟩;go_simp;refine hK.out _ _ (az hSw hb7) ?_;clear hSw hK K;intro hSw;go_simp
    (have hs7:=hSw;first|have hbx:=hbx.below hb7|skip);(refine w_v 8 hSw ?_ (k:=kz3);go_simp);(refine w_v 9 hSw ?_ (k:=kz3);go_simp);(refine w_v 10 hSw ?_ (k:=kz3);go_simp)
    refine w_r 12 fun K hK=>?_
    (have f0:=hbx.free 0;have f1:=hbx.free 1;have f2:=hbx.free 2;have f3:=hbx.free 3;have p0:=hbx.c0;have p1:=hbx.c1;have p2:=hbx.c2;have p3:=hbx.c3)
    go_simp;refine hK.out _ _ (by with_reducible first|exact hs7.alloc hge _|exact(((hSw.setCell hge _).setCell hge _).setCell hge _).setCell hge _) ?_;clear hSw hK K;intro hSw;go_simp;refine w_v 13 hSw ?_ (k:=kz3);go_simp;refine wpAnyH_done (by kernel_rfl) ?_ _;clear HS2;go_wp2_with fail
    first|(with_reducible have hby:=iy2 hSw)|have hby:=(((hbx.store 0 (.int .u64 (mt.floor:Int))).store 1 (.int .u64 (no:Int))).store 2 (.int .u64 (now:Int))).store 3 (.int .u64 (mt.lease:Int))
    simp only[ak_,ac_]at hby;obtain⟨W8,hW8,h8,hby⟩:=kj3 (Q:=fun W=>Below W6.heap.size W6 W∧BoxO W 47 _ [.int .u64 (mt.floor:Int),.int .u64 (no:Int),.int .u64 (now:Int),.int .u64 (mt.lease:Int)]) ⟨hSw,hby⟩;obtain⟨g8,hg8,hby,hge8⟩:=kj3 (Q:=fun g=>BoxO W8 47 g [.int .u64 (mt.floor:Int),.int .u64 (no:Int),.int .u64 (now:Int),.int .u64 (mt.lease:Int)]∧W6.heap.size≤g) ⟨hby,hge⟩;rw[←hW8];rw[←hg8];have hd8:Below W8.heap.size W8 W8.drew:=ak b0_;have hVW:=HVS.out _ (az h8 hd8);obtain⟨x,y,z⟩:=HK.out _ (az HB7.out (az h8 hd8));have HVW:=H_ hVW;have HBW:=H_ (HB.out.trans ((az HB7.out (az h8 hd8)).mono HB.out.size));have HZZ:=H_ z;have HGX:=H_ (show ∀g,w.heap.size≤g→g∉XY X Y from fun g hg hm=>by have:=HL.out.1 g hm;omega);have HG8:=H_ (h_ (h_ HB.out.size HB7.out.size) hge8);have hS0:BoxO W8.drew 25 g0 [.pointer (some ⟨nb,0,none⟩)]∧BoxO W8.drew 47 g8 [.int .u64 (mt.floor:Int),.int .u64 (no:Int),.int .u64 (now:Int),.int .u64 (mt.lease:Int)]∧BoxO W8.drew 101 nb [.int .i64 ni,.pointer (some ⟨Y.s,0,none⟩),.int .u64 (now:Int),.int .u64 (grace:Int)]:=⟨x,hby,z.box⟩;clear hSw hbx hby hge hb7 hs7 x y z HVS h8 hd8 hVW hge8 hg8 hW8;refine wp_region_held_drew (S:=fun w'=>BoxO w' 25 g0 [.pointer (some ⟨nb,0,none⟩)]∧BoxO w' 47 g8 [.int .u64 (mt.floor:Int),.int .u64 (no:Int),.int .u64 (now:Int),.int .u64 (mt.lease:Int)]∧BoxO w' 101 nb [.int .i64 ni,.pointer (some ⟨Y.s,0,none⟩),.int .u64 (now:Int),.int .u64 (grace:Int)]) rfl hS0 (fun hSw=>?_)
    (refine w_v 0 hSw ?_ (k:=kz4);go_simp)
    (refine w_v 1 hSw ?_ (k:=kz4);go_simp)
    (refine w_v 2 hSw ?_ (k:=kz4);go_simp)
    (refine w_v 3 hSw ?_ (k:=kz4);go_simp)
    (refine w_v 4 hSw ?_ (k:=kz4);go_simp)
    refine w_r 5 fun K hK=>?_;go_simp
    with_reducible refine HVW.out.mono ?_
    rintro e w10 ⟨rfl,hu⟩;go_simp;refine hK.out _ _ ⟨hSw.1.chg hu.c (HGX.out _ (by have:=HW.out.2;omega)),hSw.2.1.chg hu.c (HGX.out _ HG8.out),hSw.2.2.chg hu.c HZZ.out.out⟩ (fun hSn=>?_);clear hK K hSw hSn;go_simp;refine wpAnyH_done (by kernel_rfl) ?_ _;have hz:yw X Y w R.1 R.2 nb ni now grace frm mi none (.returned (.slice none 0 0)) w10:=by rw[HR3.out];exact(HZZ.out.upd hu).mute HBW.out
    have HZ:=H_ hz;clear hz hu HZZ HVW HBW;go_wp2;go_ret;exact HZ.out
end
section
open Go Go.RowKit Go.Lib Go.Shelf
variable {w w1 w2:World} {X X1 X2:Dw} {S S1 S2:Sd} {Y Y1 Y2:Yw} {V V1 V2:Sv} {nb now grace:Nat} {ni:Int}
end
end Go.Proofs.YthjdpplgfdihoaaGreatDoor
