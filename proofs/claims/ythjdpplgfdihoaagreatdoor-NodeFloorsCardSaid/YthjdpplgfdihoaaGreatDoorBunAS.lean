/- Texts NodM, NodN, NodQ, NodO, NodL, PlainTwo, PlainCr, PlainOut, PlainMout in one. No conditions. -/
import Derived.Test.YthjdpplgfdihoaaGreatDoorBunAA
import Derived.Test.YthjdpplgfdihoaaGreatDoorBunAR
import Derived.Test.YthjdpplgfdihoaaGreatDoorBunAQ
import Derived.Test.YthjdpplgfdihoaaGreatDoorBunAB
import Derived.Test.YthjdpplgfdihoaaGreatDoorBunAD
import Derived.Test.YthjdpplgfdihoaaGreatDoorBunAN

set_option linter.unusedSimpArgs false
set_option linter.unusedVariables false
set_option maxRecDepth 100000
set_option maxHeartbeats 16000000
namespace Go.Proofs.YthjdpplgfdihoaaGreatDoor
section
open Go Go.RowKit Go.Lib Go.Shelf
variable {w w1 w2:World} {X X1 X2:Dw} {S S1 S2:Sd} {Y Y1 Y2:Yw} {V V1 V2:Sv} {nb now grace:Nat} {ni:Int}
theorem dv5 (h:NdAt w X S Y V nb ni now grace) (k frm to_:Int) (mi no:Nat) (A:Option Addr) (n c:Nat) (l:List It) (hn:n≤1000) (hr:Row w.heap.size w A n 5 (itc l)) (hno:Mq.ok ⟨k,frm,to_,mi,no,A,n,c⟩ l=false∨to_≠ni):
  Calls Tryz.prog 15 #[.pointer (some ⟨nb,0,none⟩),.agg #[.int .i64 k,.int .i64 frm,.int .i64 to_,.int .u64 (mi:Int),.int .u64 (no:Int),.slice A n c]] w (cv1 X Y w S V nb ni now grace frm mi none):=by
 have hb1:=(Below.refl w.heap.size w).alloc (Nat.le_refl _) (.cells #[.pointer (some ⟨nb,0,none⟩)] 25);have hb2:=hb1.alloc (by simp) (.cells #[.int .i64 k,.int .i64 frm,.int .i64 to_,.int .u64 (mi:Int),.int .u64 (no:Int),.slice A n c] 33);have hx0:=(BoxO.new w #[.pointer (some ⟨nb,0,none⟩)] 25).alloc (.cells #[.int .i64 k,.int .i64 frm,.int .i64 to_,.int .u64 (mi:Int),.int .u64 (no:Int),.slice A n c] 33);have hx1:=BoxO.new (w.alloc (.cells #[.pointer (some ⟨nb,0,none⟩)] 25)) #[.int .i64 k,.int .i64 frm,.int .i64 to_,.int .u64 (mi:Int),.int .u64 (no:Int),.slice A n c] 33;rw[World.size_alloc]at hx1;have h2:=h.below hb2;obtain⟨W,hW⟩:∃W,W=(w.alloc (.cells #[.pointer (some ⟨nb,0,none⟩)] 25)).alloc (.cells #[.int .i64 k,.int .i64 frm,.int .i64 to_,.int .u64 (mi:Int),.int .u64 (no:Int),.slice A n c] 33):=⟨_,rfl⟩;obtain⟨g0,hg0⟩:∃g0,g0=w.heap.size:=⟨_,rfl⟩;rw[←hW]at hb2 hx0 hx1 h2;rw[←hg0]at hx0 hx1;have hmo:=fun W' (hb:Below W.heap.size W W')=>zx2 ⟨k,frm,to_,mi,no,A,n,c⟩ l W' (by simp only;omega) ((((hr.below hb2).up hb2.size).below hb).up hb.size);obtain⟨ok,hok⟩:∃ok,ok=Mq.ok ⟨k,frm,to_,mi,no,A,n,c⟩ l:=⟨_,rfl⟩;rw[←hok]at hmo hno;unfold Mq.val at hmo;simp only at hmo;have HMO:=Lib.hid hmo;have HK:=Lib.hid (fun W' (hb:Below W.heap.size W W')=>And.intro (hx0.below hb) (And.intro (hx1.below hb) (h2.below hb)));have HZ:=Lib.hid (fun W' (hb:Below W.heap.size W W')=>(bv1.same h (hb2.trans (hb.mono hb2.size))).mute (w:=w) (mf:=frm) (mi:=mi) (Below.refl _ _));have HW:=Lib.hid (And.intro hW hg0);have HNO:=Lib.hid hno;clear hmo h2 hx0 hx1 hb1 hb2 hW hg0 hr h hok hno
 cases ok with
 |false=>
  go_enter Tryz.func15,Tryz.ntmps15;go_wp2_with fail;rw[←HW.out.1,←HW.out.2];refine wp_region_held_drew (S:=fun w'=>Below W.heap.size W w') rfl (ak (Below.refl _ _)) (fun hSw=>?_);refine wpT (i:=0) (v:=?vhna0) ?hhna0 hSw ?khna0
  case hhna0=>(intro w hSw;(obtain⟨x,y,z⟩:=HK.out _ hSw;have x0:=x.cell 0;have y0:=y.cell 0;have y1:=y.cell 1;have y2:=y.cell 2;have y3:=y.cell 3;have y4:=y.cell 4;have y5:=y.cell 5;have z0:=z.box.cell 0;simp only[gE0,gE1]at x0 y0 y1 y2 y3 y4 y5 z0;clear x y z);go_simp;try (with_reducible rfl))
  go_simp;refine wpAnyH_ready (rs:=[1]) (by kernel_rfl) (by simp) ?_;refine AllReadyH.cons rfl (fun K hK=>?_) AllReadyH.nil;go_simp
  with_reducible refine(HMO.out _ hSw).mono ?_
  rintro e w3 ⟨rfl,hb3⟩;go_simp;refine hK.out _ _ (az hSw hb3) (fun hSn=>?_);clear hK K hSw;have hSw:=hSn;clear hSn;go_simp;refine wpT (i:=2) (v:=?vhna2) ?hhna2 hSw ?khna2
  case hhna2=>(intro w hSw;(obtain⟨x,y,z⟩:=HK.out _ hSw;have x0:=x.cell 0;have y0:=y.cell 0;have y1:=y.cell 1;have y2:=y.cell 2;have y3:=y.cell 3;have y4:=y.cell 4;have y5:=y.cell 5;have z0:=z.box.cell 0;simp only[gE0,gE1]at x0 y0 y1 y2 y3 y4 y5 z0;clear x y z);go_simp;try (with_reducible rfl))
  go_simp;refine wpT (i:=3) (v:=?vhna3) ?hhna3 hSw ?khna3
  case hhna3=>(intro w hSw;(obtain⟨x,y,z⟩:=HK.out _ hSw;have x0:=x.cell 0;have y0:=y.cell 0;have y1:=y.cell 1;have y2:=y.cell 2;have y3:=y.cell 3;have y4:=y.cell 4;have y5:=y.cell 5;have z0:=z.box.cell 0;simp only[gE0,gE1]at x0 y0 y1 y2 y3 y4 y5 z0;clear x y z);go_simp;try (with_reducible rfl))
  go_simp;refine wpT0 (i:=4) hSw ?_;go_simp;refine wpT0 (i:=5) hSw ?_;go_simp;refine wpT0 (i:=6) hSw ?_;go_simp;refine wpT0 (i:=7) hSw ?_;go_simp;refine wpT0 (i:=8) hSw ?_;go_simp;refine wpT0 (i:=9) hSw ?_;go_simp;refine wpT0 (i:=10) hSw ?_;go_simp;refine wpT (i:=11) (v:=?vhna11) ?hhna11 hSw ?khna11
  case hhna11=>(intro w hSw;(obtain⟨x,y,z⟩:=HK.out _ hSw;have x0:=x.cell 0;have y0:=y.cell 0;have y1:=y.cell 1;have y2:=y.cell 2;have y3:=y.cell 3;have y4:=y.cell 4;have y5:=y.cell 5;have z0:=z.box.cell 0;simp only[gE0,gE1]at x0 y0 y1 y2 y3 y4 y5 z0;clear x y z);go_simp;try (with_reducible rfl))
  go_simp;refine wpAnyH_done (by kernel_rfl) ?_ _;have HQ:=Lib.hid (HZ.out w3 (az (ak (Below.refl _ _)) hb3));clear hSw hb3 HMO HK HZ;go_wp2;go_ret;exact HQ.out
 |true=>
  have e1:(to_==ni)=false:=by have:=HNO.out;simpa using this
  have e2:(to_ !=ni)=true:=by have:=HNO.out;simpa using this
  go_enter Tryz.func15,Tryz.ntmps15;go_wp2_with fail;rw[←HW.out.1,←HW.out.2];refine wp_region_held_drew (S:=fun w'=>Below W.heap.size W w') rfl (ak (Below.refl _ _)) (fun hSw=>?_);refine wpT (i:=0) (v:=?vhnb0) ?hhnb0 hSw ?khnb0
  case hhnb0=>(intro w hSw;(obtain⟨x,y,z⟩:=HK.out _ hSw;have x0:=x.cell 0;have y0:=y.cell 0;have y1:=y.cell 1;have y2:=y.cell 2;have y3:=y.cell 3;have y4:=y.cell 4;have y5:=y.cell 5;have z0:=z.box.cell 0;simp only[gE0,gE1]at x0 y0 y1 y2 y3 y4 y5 z0;clear x y z);go_simp;try (with_reducible rfl))
  go_simp;refine wpAnyH_ready (rs:=[1]) (by kernel_rfl) (by simp) ?_;refine AllReadyH.cons rfl (fun K hK=>?_) AllReadyH.nil;go_simp
  with_reducible refine(HMO.out _ hSw).mono ?_
  rintro e w3 ⟨rfl,hb3⟩;go_simp;refine hK.out _ _ (az hSw hb3) (fun hSn=>?_);clear hK K hSw;have hSw:=hSn;clear hSn;go_simp;refine wpT (i:=2) (v:=?vhnb2) ?hhnb2 hSw ?khnb2
  case hhnb2=>(intro w hSw;(obtain⟨x,y,z⟩:=HK.out _ hSw;have x0:=x.cell 0;have y0:=y.cell 0;have y1:=y.cell 1;have y2:=y.cell 2;have y3:=y.cell 3;have y4:=y.cell 4;have y5:=y.cell 5;have z0:=z.box.cell 0;simp only[gE0,gE1]at x0 y0 y1 y2 y3 y4 y5 z0;clear x y z);go_simp;try (with_reducible rfl))
  go_simp;refine wpT (i:=3) (v:=?vhnb3) ?hhnb3 hSw ?khnb3
  case hhnb3=>(intro w hSw;(obtain⟨x,y,z⟩:=HK.out _ hSw;have x0:=x.cell 0;have y0:=y.cell 0;have y1:=y.cell 1;have y2:=y.cell 2;have y3:=y.cell 3;have y4:=y.cell 4;have y5:=y.cell 5;have z0:=z.box.cell 0;simp only[gE0,gE1]at x0 y0 y1 y2 y3 y4 y5 z0;clear x y z);go_simp;try (with_reducible rfl))
  go_simp;refine wpT (i:=4) (v:=?vhnb4) ?hhnb4 hSw ?khnb4
  case hhnb4=>(intro w hSw;(obtain⟨x,y,z⟩:=HK.out _ hSw;have x0:=x.cell 0;have y0:=y.cell 0;have y1:=y.cell 1;have y2:=y.cell 2;have y3:=y.cell 3;have y4:=y.cell 4;have y5:=y.cell 5;have z0:=z.box.cell 0;simp only[gE0,gE1]at x0 y0 y1 y2 y3 y4 y5 z0;clear x y z);go_simp;try (with_reducible rfl))
  go_simp;refine wpT (i:=5) (v:=?vhnb5) ?hhnb5 hSw ?khnb5
  case hhnb5=>(intro w hSw;(obtain⟨x,y,z⟩:=HK.out _ hSw;have x0:=x.cell 0;have y0:=y.cell 0;have y1:=y.cell 1;have y2:=y.cell 2;have y3:=y.cell 3;have y4:=y.cell 4;have y5:=y.cell 5;have z0:=z.box.cell 0;simp only[gE0,gE1]at x0 y0 y1 y2 y3 y4 y5 z0;clear x y z);go_simp;try (with_reducible rfl))
  go_simp;refine wpT (i:=6) (v:=?vhnb6) ?hhnb6 hSw ?khnb6
  case hhnb6=>(intro w hSw;(obtain⟨x,y,z⟩:=HK.out _ hSw;have x0:=x.cell 0;have y0:=y.cell 0;have y1:=y.cell 1;have y2:=y.cell 2;have y3:=y.cell 3;have y4:=y.cell 4;have y5:=y.cell 5;have z0:=z.box.cell 0;simp only[gE0,gE1]at x0 y0 y1 y2 y3 y4 y5 z0;clear x y z);go_simp;try (with_reducible rfl))
  go_simp;refine wpT (i:=7) (v:=?vhnb7) ?hhnb7 hSw ?khnb7
  case hhnb7=>(intro w hSw;(obtain⟨x,y,z⟩:=HK.out _ hSw;have x0:=x.cell 0;have y0:=y.cell 0;have y1:=y.cell 1;have y2:=y.cell 2;have y3:=y.cell 3;have y4:=y.cell 4;have y5:=y.cell 5;have z0:=z.box.cell 0;simp only[gE0,gE1]at x0 y0 y1 y2 y3 y4 y5 z0;clear x y z);go_simp;try (with_reducible rfl))
  go_simp;refine wpT (i:=8) (v:=?vhnb8) ?hhnb8 hSw ?khnb8
  case hhnb8=>(intro w hSw;(obtain⟨x,y,z⟩:=HK.out _ hSw;have x0:=x.cell 0;have y0:=y.cell 0;have y1:=y.cell 1;have y2:=y.cell 2;have y3:=y.cell 3;have y4:=y.cell 4;have y5:=y.cell 5;have z0:=z.box.cell 0;simp only[gE0,gE1]at x0 y0 y1 y2 y3 y4 y5 z0;clear x y z);go_simp;try (with_reducible rfl))
  go_simp;refine wpT (i:=9) (v:=?vhnb9) ?hhnb9 hSw ?khnb9
  case hhnb9=>(intro w hSw;(obtain⟨x,y,z⟩:=HK.out _ hSw;have x0:=x.cell 0;have y0:=y.cell 0;have y1:=y.cell 1;have y2:=y.cell 2;have y3:=y.cell 3;have y4:=y.cell 4;have y5:=y.cell 5;have z0:=z.box.cell 0;simp only[gE0,gE1]at x0 y0 y1 y2 y3 y4 y5 z0;clear x y z);go_simp;try (with_reducible rfl))
  go_simp;refine wpT (i:=10) (v:=?vhnb10) ?hhnb10 hSw ?khnb10
  case hhnb10=>(intro w hSw;(obtain⟨x,y,z⟩:=HK.out _ hSw;have x0:=x.cell 0;have y0:=y.cell 0;have y1:=y.cell 1;have y2:=y.cell 2;have y3:=y.cell 3;have y4:=y.cell 4;have y5:=y.cell 5;have z0:=z.box.cell 0;simp only[gE0,gE1]at x0 y0 y1 y2 y3 y4 y5 z0;clear x y z);go_simp;try (with_reducible rfl))
  go_simp;refine wpT (i:=11) (v:=?vhnb11) ?hhnb11 hSw ?khnb11
  case hhnb11=>(intro w hSw;(obtain⟨x,y,z⟩:=HK.out _ hSw;have x0:=x.cell 0;have y0:=y.cell 0;have y1:=y.cell 1;have y2:=y.cell 2;have y3:=y.cell 3;have y4:=y.cell 4;have y5:=y.cell 5;have z0:=z.box.cell 0;simp only[gE0,gE1]at x0 y0 y1 y2 y3 y4 y5 z0;clear x y z);go_simp;try (with_reducible rfl))
  go_simp;refine wpAnyH_done (by kernel_rfl) ?_ _;have HQ:=Lib.hid (HZ.out w3 (az (ak (Below.refl _ _)) hb3));clear hSw hb3 HMO HK HZ;go_wp2;go_ret;exact HQ.out
theorem dy5 (h:NdAt w X S Y V nb ni now grace) (hN:Nrm V) (frm:Int) (mi no:Nat) (A:Option Addr) (n c:Nat) (l:List It) (k:Int) (hok:Mq.ok ⟨k,frm,ni,mi,no,A,n,c⟩ l=true) (hn:n≤1000) (hr:Row w.heap.size w A n 5 (itc l)) (ho:k≠1∧k≠4∧k≠6∧k≠8∧k≠10):
  Calls Tryz.prog 15 #[.pointer (some ⟨nb,0,none⟩),.agg #[.int .i64 k,.int .i64 frm,.int .i64 ni,.int .u64 (mi:Int),.int .u64 (no:Int),.slice A n c]] w (cv1 X Y w S V nb ni now grace frm mi none):=by
 have hb1:=(Below.refl w.heap.size w).alloc (Nat.le_refl _) (.cells #[.pointer (some ⟨nb,0,none⟩)] 25);have hb2:=hb1.alloc (by simp) (.cells #[.int .i64 k,.int .i64 frm,.int .i64 ni,.int .u64 (mi:Int),.int .u64 (no:Int),.slice A n c] 33);have hx0:=(BoxO.new w #[.pointer (some ⟨nb,0,none⟩)] 25).alloc (.cells #[.int .i64 k,.int .i64 frm,.int .i64 ni,.int .u64 (mi:Int),.int .u64 (no:Int),.slice A n c] 33);have hx1:=BoxO.new (w.alloc (.cells #[.pointer (some ⟨nb,0,none⟩)] 25)) #[.int .i64 k,.int .i64 frm,.int .i64 ni,.int .u64 (mi:Int),.int .u64 (no:Int),.slice A n c] 33;rw[World.size_alloc]at hx1;have h2:=h.below hb2;have hmf:∀(fn:Fn) (first cap:Array Value) (w:World),(Instr.makeFunc fn first cap).run Tryz.prog w=.ok (.func fn first cap) w:=fun _ _ _ _=>rfl;obtain⟨W,hW⟩:∃W,W=(w.alloc (.cells #[.pointer (some ⟨nb,0,none⟩)] 25)).alloc (.cells #[.int .i64 k,.int .i64 frm,.int .i64 ni,.int .u64 (mi:Int),.int .u64 (no:Int),.slice A n c] 33):=⟨_,rfl⟩;obtain⟨g0,hg0⟩:∃g0,g0=w.heap.size:=⟨_,rfl⟩;rw[←hW]at hb2 hx0 hx1 h2;rw[←hg0]at hx0 hx1;have hmo:=fun W' (hb:Below W.heap.size W W')=>zx2 ⟨k,frm,ni,mi,no,A,n,c⟩ l W' (by simp only;omega) ((((hr.below hb2).up hb2.size).below hb).up hb.size);simp only[hok]at hmo;unfold Mq.val at hmo;simp only at hmo;have HMO:=Lib.hid hmo;have H2:=Lib.hid h2;have HX:=Lib.hid (And.intro hx0 hx1);have HB:=Lib.hid hb2;have HW:=Lib.hid (And.intro hW hg0);have HROW:=Lib.hid ((hr.below hb2).up hb2.size);have HL:=Lib.hid (And.intro h.at_.lt (And.intro h.box.lt h.at_.dm.env.base));have HK:=Lib.hid (fun W' (hb:Below W.heap.size W W')=>And.intro (hx0.below hb) (And.intro (hx1.below hb) (h2.below hb)));have HH:=Lib.hid h;clear hmo h2 hx0 hx1 hb1 hb2 hW hg0 hr h hok;have e1:(k==1)=false:=by simpa using ho.1
 have e4:(k==4)=false:=by simpa using ho.2.1
 have e6:(k==6)=false:=by simpa using ho.2.2.1
 have e8:(k==8)=false:=by simpa using ho.2.2.2.1
 have e10:(k==10)=false:=by simpa using ho.2.2.2.2
 go_enter Tryz.func15,Tryz.ntmps15;go_wp2_with fail;rw[←HW.out.1,←HW.out.2];refine wp_region_held_drew (S:=fun w'=>Below W.heap.size W w') rfl (ak (Below.refl _ _)) (fun hSw=>?_);refine wpT (i:=0) (v:=?vhot0) ?hhot0 hSw ?khot0
 case hhot0=>(intro w hSw;(obtain⟨x,y,z⟩:=HK.out _ hSw;have x0:=x.cell 0;have y0:=y.cell 0;have y1:=y.cell 1;have y2:=y.cell 2;have y3:=y.cell 3;have y4:=y.cell 4;have y5:=y.cell 5;have z0:=z.box.cell 0;simp only[gE0,gE1]at x0 y0 y1 y2 y3 y4 y5 z0;clear x y z);go_simp;try (with_reducible rfl))
 go_simp;refine wpAnyH_ready (rs:=[1]) (by kernel_rfl) (by simp) ?_;refine AllReadyH.cons rfl (fun K hK=>?_) AllReadyH.nil;go_simp
 with_reducible refine(HMO.out _ hSw).mono ?_
 rintro e w3 ⟨rfl,hb3⟩;go_simp;refine hK.out _ _ (az hSw hb3) (fun hSn=>?_);clear hK K hSw;have hSw:=hSn;clear hSn;go_simp;refine wpT (i:=2) (v:=?vhot2) ?hhot2 hSw ?khot2
 case hhot2=>(intro w hSw;(obtain⟨x,y,z⟩:=HK.out _ hSw;have x0:=x.cell 0;have y0:=y.cell 0;have y1:=y.cell 1;have y2:=y.cell 2;have y3:=y.cell 3;have y4:=y.cell 4;have y5:=y.cell 5;have z0:=z.box.cell 0;simp only[gE0,gE1]at x0 y0 y1 y2 y3 y4 y5 z0;clear x y z);go_simp;try (with_reducible rfl))
 go_simp;refine wpT (i:=3) (v:=?vhot3) ?hhot3 hSw ?khot3
 case hhot3=>(intro w hSw;(obtain⟨x,y,z⟩:=HK.out _ hSw;have x0:=x.cell 0;have y0:=y.cell 0;have y1:=y.cell 1;have y2:=y.cell 2;have y3:=y.cell 3;have y4:=y.cell 4;have y5:=y.cell 5;have z0:=z.box.cell 0;simp only[gE0,gE1]at x0 y0 y1 y2 y3 y4 y5 z0;clear x y z);go_simp;try (with_reducible rfl))
 go_simp;refine wpT (i:=4) (v:=?vhot4) ?hhot4 hSw ?khot4
 case hhot4=>(intro w hSw;(obtain⟨x,y,z⟩:=HK.out _ hSw;have x0:=x.cell 0;have y0:=y.cell 0;have y1:=y.cell 1;have y2:=y.cell 2;have y3:=y.cell 3;have y4:=y.cell 4;have y5:=y.cell 5;have z0:=z.box.cell 0;simp only[gE0,gE1]at x0 y0 y1 y2 y3 y4 y5 z0;clear x y z);go_simp;try (with_reducible rfl))
 go_simp;refine wpT (i:=5) (v:=?vhot5) ?hhot5 hSw ?khot5
 case hhot5=>(intro w hSw;(obtain⟨x,y,z⟩:=HK.out _ hSw;have x0:=x.cell 0;have y0:=y.cell 0;have y1:=y.cell 1;have y2:=y.cell 2;have y3:=y.cell 3;have y4:=y.cell 4;have y5:=y.cell 5;have z0:=z.box.cell 0;simp only[gE0,gE1]at x0 y0 y1 y2 y3 y4 y5 z0;clear x y z);go_simp;try (with_reducible rfl))
 go_simp;refine wpT (i:=6) (v:=?vhot6) ?hhot6 hSw ?khot6
 case hhot6=>(intro w hSw;(obtain⟨x,y,z⟩:=HK.out _ hSw;have x0:=x.cell 0;have y0:=y.cell 0;have y1:=y.cell 1;have y2:=y.cell 2;have y3:=y.cell 3;have y4:=y.cell 4;have y5:=y.cell 5;have z0:=z.box.cell 0;simp only[gE0,gE1]at x0 y0 y1 y2 y3 y4 y5 z0;clear x y z);go_simp;try (with_reducible rfl))
 go_simp;refine wpT (i:=7) (v:=?vhot7) ?hhot7 hSw ?khot7
 case hhot7=>(intro w hSw;(obtain⟨x,y,z⟩:=HK.out _ hSw;have x0:=x.cell 0;have y0:=y.cell 0;have y1:=y.cell 1;have y2:=y.cell 2;have y3:=y.cell 3;have y4:=y.cell 4;have y5:=y.cell 5;have z0:=z.box.cell 0;simp only[gE0,gE1]at x0 y0 y1 y2 y3 y4 y5 z0;clear x y z);go_simp;try (with_reducible rfl))
 go_simp;refine wpT (i:=8) (v:=?vhot8) ?hhot8 hSw ?khot8
 case hhot8=>(intro w hSw;(obtain⟨x,y,z⟩:=HK.out _ hSw;have x0:=x.cell 0;have y0:=y.cell 0;have y1:=y.cell 1;have y2:=y.cell 2;have y3:=y.cell 3;have y4:=y.cell 4;have y5:=y.cell 5;have z0:=z.box.cell 0;simp only[gE0,gE1]at x0 y0 y1 y2 y3 y4 y5 z0;clear x y z);go_simp;try (with_reducible rfl))
 go_simp;refine wpT (i:=9) (v:=?vhot9) ?hhot9 hSw ?khot9
 case hhot9=>(intro w hSw;(obtain⟨x,y,z⟩:=HK.out _ hSw;have x0:=x.cell 0;have y0:=y.cell 0;have y1:=y.cell 1;have y2:=y.cell 2;have y3:=y.cell 3;have y4:=y.cell 4;have y5:=y.cell 5;have z0:=z.box.cell 0;simp only[gE0,gE1]at x0 y0 y1 y2 y3 y4 y5 z0;clear x y z);go_simp;try (with_reducible rfl))
 go_simp;refine wpT (i:=10) (v:=?vhot10) ?hhot10 hSw ?khot10
 case hhot10=>(intro w hSw;(obtain⟨x,y,z⟩:=HK.out _ hSw;have x0:=x.cell 0;have y0:=y.cell 0;have y1:=y.cell 1;have y2:=y.cell 2;have y3:=y.cell 3;have y4:=y.cell 4;have y5:=y.cell 5;have z0:=z.box.cell 0;simp only[gE0,gE1]at x0 y0 y1 y2 y3 y4 y5 z0;clear x y z);go_simp;try (with_reducible rfl))
 go_simp;refine wpT (i:=11) (v:=?vhot11) ?hhot11 hSw ?khot11
 case hhot11=>(intro w hSw;(obtain⟨x,y,z⟩:=HK.out _ hSw;have x0:=x.cell 0;have y0:=y.cell 0;have y1:=y.cell 1;have y2:=y.cell 2;have y3:=y.cell 3;have y4:=y.cell 4;have y5:=y.cell 5;have z0:=z.box.cell 0;simp only[gE0,gE1]at x0 y0 y1 y2 y3 y4 y5 z0;clear x y z);go_simp;try (with_reducible rfl))
 go_simp;refine wpAnyH_done (by kernel_rfl) ?_ _;have hb4:=az (ak (Below.refl W.heap.size W)) hb3;clear hSw hb3 HMO;obtain⟨x,y,z⟩:=HK.out _ hb4;have x0:=x.cell 0;have z1:=z.box.cell 1;simp only[gE0,gE1]at x0 z1;have HME:=Lib.hid (dz1 z.at_ (by have:=hN.files;omega));have HB4:=Lib.hid hb4;clear x y z hb4;go_wp2_with fail
 with_reducible refine HME.out.mono ?_
 rintro e w4 ⟨rfl,hb5⟩;obtain⟨mt,hmt⟩:∃mt,mt=St.yx V:=⟨_,rfl⟩;have HB5:=Lib.hid (az HB4.out hb5);have hb6:=az HB5.out ((Below.refl w4.heap.size w4).alloc (Nat.le_refl _) (.cells #[.int .u64 (mt.floor:Int),.int .u64 (mt.cert:Int),.int .u64 (mt.at_:Int),.int .u64 (mt.lease:Int)] 47));have HX6:=Lib.hid (BoxO.new w4 #[.int .u64 (mt.floor:Int),.int .u64 (mt.cert:Int),.int .u64 (mt.at_:Int),.int .u64 (mt.lease:Int)] 47);have HB6:=Lib.hid hb6;rw[←hmt];unfold Mt.val;have HMT:=Lib.hid hmt;clear hmt hb5 HME x0 z1 hb6;obtain⟨x,y,z⟩:=HK.out _ HB6.out;have x0:=x.cell 0;have y0:=y.cell 0;have y1:=y.cell 1;have y3:=y.cell 3;have y4:=y.cell 4;have y5:=y.cell 5;have z0:=z.box.cell 0;have z1:=z.box.cell 1;simp only[gE0,gE1]at x0 y0 y1 y3 y4 y5 z0 z1;have HZ:Hid (cv1 X Y w S V nb ni now grace frm mi none (.returned (.slice none 0 0)) (w4.alloc (.cells #[.int .u64 (mt.floor:Int),.int .u64 (mt.cert:Int),.int .u64 (mt.at_:Int),.int .u64 (mt.lease:Int)] 47))):=Lib.hid ((bv1.same HH.out (HB.out.trans (HB6.out.mono HB.out.size))).mute (w:=w) (Below.refl _ _));clear x y z;go_wp2;go_ret;exact HZ.out
theorem dj4 (h:NdAt w X S Y V nb ni now grace) (hN:Nrm V) (frm:Int) (mi no:Nat) (A:Option Addr) (n c:Nat) (l:List It) (hok:Mq.ok ⟨8,frm,ni,mi,no,A,n,c⟩ l=true) (hn:n≤1000) (hr:Row w.heap.size w A n 5 (itc l)) (hfit:∀x∈l,x.fit):
  Calls Tryz.prog 15 #[.pointer (some ⟨nb,0,none⟩),.agg #[.int .i64 8,.int .i64 frm,.int .i64 ni,.int .u64 (mi:Int),.int .u64 (no:Int),.slice A n c]] w (cv1 X Y w (St.fill S V no l).1 (St.fill S V no l).2.1 nb ni now grace frm mi (if (St.fill S V no l).2.2=true then some (9,no,[]) else none)):=by
 obtain⟨R,hR⟩:∃R,R=St.fill S V no l:=⟨_,rfl⟩;obtain⟨an,han⟩:∃an:Option (Int×Nat×List It),an=if (St.fill S V no l).2.2=true then some (9,no,[]) else none:=⟨_,rfl⟩
 rw[←han,←hR];rw[←hR]at han;have HR:=Lib.hid (And.intro hR han);clear hR han;have hb1:=(Below.refl w.heap.size w).alloc (Nat.le_refl _) (.cells #[.pointer (some ⟨nb,0,none⟩)] 25);have hb2:=hb1.alloc (by simp) (.cells #[.int .i64 8,.int .i64 frm,.int .i64 ni,.int .u64 (mi:Int),.int .u64 (no:Int),.slice A n c] 33);have hx0:=(BoxO.new w #[.pointer (some ⟨nb,0,none⟩)] 25).alloc (.cells #[.int .i64 8,.int .i64 frm,.int .i64 ni,.int .u64 (mi:Int),.int .u64 (no:Int),.slice A n c] 33);have hx1:=BoxO.new (w.alloc (.cells #[.pointer (some ⟨nb,0,none⟩)] 25)) #[.int .i64 8,.int .i64 frm,.int .i64 ni,.int .u64 (mi:Int),.int .u64 (no:Int),.slice A n c] 33;rw[World.size_alloc]at hx1;have h2:=h.below hb2;have hmf:∀(fn:Fn) (first cap:Array Value) (w:World),(Instr.makeFunc fn first cap).run Tryz.prog w=.ok (.func fn first cap) w:=fun _ _ _ _=>rfl;obtain⟨W,hW⟩:∃W,W=(w.alloc (.cells #[.pointer (some ⟨nb,0,none⟩)] 25)).alloc (.cells #[.int .i64 8,.int .i64 frm,.int .i64 ni,.int .u64 (mi:Int),.int .u64 (no:Int),.slice A n c] 33):=⟨_,rfl⟩;obtain⟨g0,hg0⟩:∃g0,g0=w.heap.size:=⟨_,rfl⟩;rw[←hW]at hb2 hx0 hx1 h2;rw[←hg0]at hx0 hx1;have hmo:=fun W' (hb:Below W.heap.size W W')=>zx2 ⟨8,frm,ni,mi,no,A,n,c⟩ l W' (by simp only;omega) ((((hr.below hb2).up hb2.size).below hb).up hb.size);simp only[hok]at hmo;unfold Mq.val at hmo;simp only at hmo;have HMO:=Lib.hid hmo;have H2:=Lib.hid h2;have HX:=Lib.hid (And.intro hx0 hx1);have HB:=Lib.hid hb2;have HW:=Lib.hid (And.intro hW hg0);have HROW:=Lib.hid ((hr.below hb2).up hb2.size);have HL:=Lib.hid (And.intro h.at_.lt (And.intro h.box.lt h.at_.dm.env.base));have HK:=Lib.hid (fun W' (hb:Below W.heap.size W W')=>And.intro (hx0.below hb) (And.intro (hx1.below hb) (h2.below hb)));have HH:=Lib.hid h;clear hmo h2 hx0 hx1 hb1 hb2 hW hg0 hr h hok;go_enter Tryz.func15,Tryz.ntmps15;go_wp2_with fail;rw[←HW.out.1,←HW.out.2];refine wp_region_held_drew (S:=fun w'=>Below W.heap.size W w') rfl (ak (Below.refl _ _)) (fun hSw=>?_);refine wpT (i:=0) (v:=?vhfi0) ?hhfi0 hSw ?khfi0
 case hhfi0=>(intro w hSw;(obtain⟨x,y,z⟩:=HK.out _ hSw;have x0:=x.cell 0;have y0:=y.cell 0;have y1:=y.cell 1;have y2:=y.cell 2;have y3:=y.cell 3;have y4:=y.cell 4;have y5:=y.cell 5;have z0:=z.box.cell 0;simp only[gE0,gE1]at x0 y0 y1 y2 y3 y4 y5 z0;clear x y z);go_simp;try (with_reducible rfl))
 go_simp;refine wpAnyH_ready (rs:=[1]) (by kernel_rfl) (by simp) ?_;refine AllReadyH.cons rfl (fun K hK=>?_) AllReadyH.nil;go_simp
 with_reducible refine(HMO.out _ hSw).mono ?_
 rintro e w3 ⟨rfl,hb3⟩;go_simp;refine hK.out _ _ (az hSw hb3) (fun hSn=>?_);clear hK K hSw;have hSw:=hSn;clear hSn;go_simp;refine wpT (i:=2) (v:=?vhfi2) ?hhfi2 hSw ?khfi2
 case hhfi2=>(intro w hSw;(obtain⟨x,y,z⟩:=HK.out _ hSw;have x0:=x.cell 0;have y0:=y.cell 0;have y1:=y.cell 1;have y2:=y.cell 2;have y3:=y.cell 3;have y4:=y.cell 4;have y5:=y.cell 5;have z0:=z.box.cell 0;simp only[gE0,gE1]at x0 y0 y1 y2 y3 y4 y5 z0;clear x y z);go_simp;try (with_reducible rfl))
 go_simp;refine wpT (i:=3) (v:=?vhfi3) ?hhfi3 hSw ?khfi3
 case hhfi3=>(intro w hSw;(obtain⟨x,y,z⟩:=HK.out _ hSw;have x0:=x.cell 0;have y0:=y.cell 0;have y1:=y.cell 1;have y2:=y.cell 2;have y3:=y.cell 3;have y4:=y.cell 4;have y5:=y.cell 5;have z0:=z.box.cell 0;simp only[gE0,gE1]at x0 y0 y1 y2 y3 y4 y5 z0;clear x y z);go_simp;try (with_reducible rfl))
 go_simp;refine wpT (i:=4) (v:=?vhfi4) ?hhfi4 hSw ?khfi4
 case hhfi4=>(intro w hSw;(obtain⟨x,y,z⟩:=HK.out _ hSw;have x0:=x.cell 0;have y0:=y.cell 0;have y1:=y.cell 1;have y2:=y.cell 2;have y3:=y.cell 3;have y4:=y.cell 4;have y5:=y.cell 5;have z0:=z.box.cell 0;simp only[gE0,gE1]at x0 y0 y1 y2 y3 y4 y5 z0;clear x y z);go_simp;try (with_reducible rfl))
 go_simp;refine wpT (i:=5) (v:=?vhfi5) ?hhfi5 hSw ?khfi5
 case hhfi5=>(intro w hSw;(obtain⟨x,y,z⟩:=HK.out _ hSw;have x0:=x.cell 0;have y0:=y.cell 0;have y1:=y.cell 1;have y2:=y.cell 2;have y3:=y.cell 3;have y4:=y.cell 4;have y5:=y.cell 5;have z0:=z.box.cell 0;simp only[gE0,gE1]at x0 y0 y1 y2 y3 y4 y5 z0;clear x y z);go_simp;try (with_reducible rfl))
 go_simp;refine wpT (i:=6) (v:=?vhfi6) ?hhfi6 hSw ?khfi6
 case hhfi6=>(intro w hSw;(obtain⟨x,y,z⟩:=HK.out _ hSw;have x0:=x.cell 0;have y0:=y.cell 0;have y1:=y.cell 1;have y2:=y.cell 2;have y3:=y.cell 3;have y4:=y.cell 4;have y5:=y.cell 5;have z0:=z.box.cell 0;simp only[gE0,gE1]at x0 y0 y1 y2 y3 y4 y5 z0;clear x y z);go_simp;try (with_reducible rfl))
 go_simp;refine wpT (i:=7) (v:=?vhfi7) ?hhfi7 hSw ?khfi7
 case hhfi7=>(intro w hSw;(obtain⟨x,y,z⟩:=HK.out _ hSw;have x0:=x.cell 0;have y0:=y.cell 0;have y1:=y.cell 1;have y2:=y.cell 2;have y3:=y.cell 3;have y4:=y.cell 4;have y5:=y.cell 5;have z0:=z.box.cell 0;simp only[gE0,gE1]at x0 y0 y1 y2 y3 y4 y5 z0;clear x y z);go_simp;try (with_reducible rfl))
 go_simp;refine wpT (i:=8) (v:=?vhfi8) ?hhfi8 hSw ?khfi8
 case hhfi8=>(intro w hSw;(obtain⟨x,y,z⟩:=HK.out _ hSw;have x0:=x.cell 0;have y0:=y.cell 0;have y1:=y.cell 1;have y2:=y.cell 2;have y3:=y.cell 3;have y4:=y.cell 4;have y5:=y.cell 5;have z0:=z.box.cell 0;simp only[gE0,gE1]at x0 y0 y1 y2 y3 y4 y5 z0;clear x y z);go_simp;try (with_reducible rfl))
 go_simp;refine wpT (i:=9) (v:=?vhfi9) ?hhfi9 hSw ?khfi9
 case hhfi9=>(intro w hSw;(obtain⟨x,y,z⟩:=HK.out _ hSw;have x0:=x.cell 0;have y0:=y.cell 0;have y1:=y.cell 1;have y2:=y.cell 2;have y3:=y.cell 3;have y4:=y.cell 4;have y5:=y.cell 5;have z0:=z.box.cell 0;simp only[gE0,gE1]at x0 y0 y1 y2 y3 y4 y5 z0;clear x y z);go_simp;try (with_reducible rfl))
 go_simp;refine wpT (i:=10) (v:=?vhfi10) ?hhfi10 hSw ?khfi10
 case hhfi10=>(intro w hSw;(obtain⟨x,y,z⟩:=HK.out _ hSw;have x0:=x.cell 0;have y0:=y.cell 0;have y1:=y.cell 1;have y2:=y.cell 2;have y3:=y.cell 3;have y4:=y.cell 4;have y5:=y.cell 5;have z0:=z.box.cell 0;simp only[gE0,gE1]at x0 y0 y1 y2 y3 y4 y5 z0;clear x y z);go_simp;try (with_reducible rfl))
 go_simp;refine wpT (i:=11) (v:=?vhfi11) ?hhfi11 hSw ?khfi11
 case hhfi11=>(intro w hSw;(obtain⟨x,y,z⟩:=HK.out _ hSw;have x0:=x.cell 0;have y0:=y.cell 0;have y1:=y.cell 1;have y2:=y.cell 2;have y3:=y.cell 3;have y4:=y.cell 4;have y5:=y.cell 5;have z0:=z.box.cell 0;simp only[gE0,gE1]at x0 y0 y1 y2 y3 y4 y5 z0;clear x y z);go_simp;try (with_reducible rfl))
 go_simp;refine wpAnyH_done (by kernel_rfl) ?_ _;have hb4:=az (ak (Below.refl W.heap.size W)) hb3;clear hSw hb3 HMO;obtain⟨x,y,z⟩:=HK.out _ hb4;have x0:=x.cell 0;have z1:=z.box.cell 1;simp only[gE0,gE1]at x0 z1;have HME:=Lib.hid (dz1 z.at_ (by have:=hN.files;omega));have HB4:=Lib.hid hb4;clear x y z hb4;go_wp2_with fail
 with_reducible refine HME.out.mono ?_
 rintro e w4 ⟨rfl,hb5⟩;obtain⟨mt,hmt⟩:∃mt,mt=St.yx V:=⟨_,rfl⟩;have HB5:=Lib.hid (az HB4.out hb5);have hb6:=az HB5.out ((Below.refl w4.heap.size w4).alloc (Nat.le_refl _) (.cells #[.int .u64 (mt.floor:Int),.int .u64 (mt.cert:Int),.int .u64 (mt.at_:Int),.int .u64 (mt.lease:Int)] 47));have HX6:=Lib.hid (BoxO.new w4 #[.int .u64 (mt.floor:Int),.int .u64 (mt.cert:Int),.int .u64 (mt.at_:Int),.int .u64 (mt.lease:Int)] 47);have HB6:=Lib.hid hb6;rw[←hmt];unfold Mt.val;have HMT:=Lib.hid hmt;clear hmt hb5 HME x0 z1 hb6;obtain⟨x,y,z⟩:=HK.out _ HB6.out;have x0:=x.cell 0;have y0:=y.cell 0;have y1:=y.cell 1;have y3:=y.cell 3;have y4:=y.cell 4;have y5:=y.cell 5;have z0:=z.box.cell 0;have z1:=z.box.cell 1;simp only[gE0,gE1]at x0 y0 y1 y3 y4 y5 z0 z1;obtain⟨hl1,hl2,hl3⟩:=HL.out;have hgx:∀g,w.heap.size≤g→g∉XY X Y:=fun g hg hm=>by have:=hl1 g hm;omega
 have hnf:=xv3 z hN 8 frm ni mi no A n c l hn ((HROW.out.below HB6.out).up HB6.out.size) hfit;rw[←HMT.out]at hnf;unfold Mt.val at hnf;rw[←HR.out.1]at hnf;obtain⟨S1,V1,b⟩:=R;simp only at hnf ⊢;have HAN0:=Lib.hid (show an=if b=true then some (9,no,[]) else none from HR.out.2);clear HR;have HNF:=Lib.hid hnf;have HXY:=Lib.hid (And.intro x y);have HGX:=Lib.hid hgx;have y2:=y.cell 2;simp only[gE0,gE1]at y2;clear hnf hl1 hl2 hl3 hgx x y z;go_wp2_with fail
 with_reducible refine HNF.out.mono ?_
 rintro e w8 ⟨rfl,hu⟩;have HU:=Lib.hid hu;clear x0 y0 y1 y3 y4 y5 z0 z1 y2
 cases b with
 |false=>
  have HZ:Hid (cv1 X Y w S1 V1 nb ni now grace frm mi an (.returned (.slice none 0 0)) w8):=Lib.hid (by
   rw[HAN0.out,if_neg (by simp)];exact HU.out.mute (HB.out.trans (HB6.out.mono HB.out.size)))
  clear hu;go_wp2;go_ret;exact HZ.out
 |true=>
  obtain⟨X1,Y1,e1,es,h8,c8,f8,_⟩:=hu;have hg:=HW.out.2;have q0:=(HXY.out.1.chg c8 (HGX.out _ (by omega))).cell 0;have q1:=(HXY.out.2.chg c8 (HGX.out _ (by omega))).cell 1;have q3:=(HXY.out.2.chg c8 (HGX.out _ (by omega))).cell 3;have q4:=(HXY.out.2.chg c8 (HGX.out _ (by omega))).cell 4;have p0:=h8.box.cell 0;simp only[gE0,gE1]at q0 q1 q3 q4 p0;have HAN:=Lib.hid (bw1 g0 (g0+1) nb frm ni 9 mi no none 0 0 w8 q0 p0 q1 q3);have HZ:Hid (∀e w',e=.returned (.slice (some ⟨w8.heap.size,0,none⟩) 1 1)→Below w8.heap.size w8 w'→Answ w' w8.heap.size 9 ni frm mi no none 0 0→cv1 X Y w S1 V1 nb ni now grace frm mi an e w'):=Lib.hid (by
   intro e w' h1 h2 h3;rw[HAN0.out,if_pos rfl];exact HU.out.told (HB.out.trans (HB6.out.mono HB.out.size)) Row.nil_ (fun a ha=>by cases ha) h1 h2 h3)
  clear hg e1 es h8 c8 f8;go_wp2_with fail
  with_reducible refine HAN.out.mono ?_
  rintro e w9 ⟨rfl,h9,ha9⟩;have HY:=Lib.hid (HZ.out _ _ rfl h9 ha9);clear h9 ha9 HZ HAN q0 q1 q3 q4 p0;go_wp2;go_ret;exact HY.out
end
section
open Go Go.RowKit Go.Lib Go.Shelf
set_option linter.unusedSimpArgs false
variable {w w1 w2:World} {X X1 X2:Dw} {S S1 S2:Sd} {Y Y1 Y2:Yw} {V V1 V2:Sv} {nb now grace:Nat} {ni:Int}
end
section
open Go Go.RowKit Go.Lib Go.Shelf
variable {w w1 w2:World} {X X1 X2:Dw} {S S1 S2:Sd} {Y Y1 Y2:Yw} {V V1 V2:Sv} {nb now grace:Nat} {ni:Int}
end
section
open Go Go.RowKit Go.Lib Go.Shelf
variable {w w1 w2:World} {X X1 X2:Dw} {S S1 S2:Sd} {Y Y1 Y2:Yw} {V V1 V2:Sv} {nb now grace:Nat} {ni:Int}
end
section
open Go Go.RowKit Go.Lib Go.Shelf
variable {w w0 w1 w2:World} {X X1 X2:Dw} {S S1 S2:Sd} {Y Y1 Y2:Yw} {V V1 V2:Sv} {nb now grace:Nat} {ni:Int} {F G:List Nat}
variable {Xa Xb:Dw} {Sa Sb:Sd} {Ya Yb:Yw} {Va Vb:Sv} {na:Nat}
end
section
open Go
namespace Nd
variable {q:Int} {S:Sd} {V:Sv} {c d:Nat}
theorem ek4 {v:Vw} (hv:v.ok=true) {m:Mt} (hm:St.may1 m.floor v.floor∧St.may1 m.cert v.cert∧St.may1 m.at_ v.at_∧St.may1 m.lease v.lease):v.app ⟨[],[],0,m.floor,m.cert,m.at_,m.lease⟩=some { v with floor:=m.floor,cert:=m.cert,at_:=m.at_,lease:=m.lease }:=by
 obtain⟨⟨m1,n1⟩,⟨m2,n2⟩,⟨m3,n5⟩,⟨m4,n6⟩⟩:=hm;have ho:({ v with floor:=m.floor,cert:=m.cert,at_:=m.at_,lease:=m.lease }:Vw).ok=true:=by
  simp only[Vw.ok,ty1,Bool.and_eq_true,decide_eq_true_eq]at hv ⊢;refine⟨⟨⟨hv.1.1.1,?_⟩,hv.1.2⟩,hv.2⟩;omega
 have hz:∀a b:Nat,(a=0→b=0)→orElse a b=a:=fun a b h=>by
  unfold orElse;split
  ·rename_i e
   rw[h e,e]
  ·rfl
 unfold Vw.app dropAll;simp only[hz _ _ n1,hz _ _ n2,hz _ _ n5,hz _ _ n6,if_true,List.append_nil];rw[if_pos ho]
end Nd
end
section
open Go Go.RowKit
structure Ct where
 dead:Bool
 stop:Nat
 fail:Nat
def Ct.call (c:Ct):Ct×Nat:=
 if c.dead=true then (c,50)
 else if 0 < c.fail then (⟨if 0 < c.stop then decide (c.stop - 1=0) else c.dead,if 0 < c.stop then c.stop - 1 else c.stop,c.fail - 1⟩,if c.fail - 1=0 then 15 else 0)
 else (⟨if 0 < c.stop then decide (c.stop - 1=0) else c.dead,if 0 < c.stop then c.stop - 1 else c.stop,c.fail⟩,0)
structure Co where
 quota:Nat
 files:List (List UInt8×Nat)
 names:Nm
 lasted:Nm
 turns:List Tn
def Sd.co (d:Sd):Co:=⟨d.quota,d.files,d.names,d.lasted,d.turns⟩
def Sd.ct (d:Sd):Ct:=⟨d.dead,d.stop,d.fail⟩
inductive Ct.Reach:Ct→Ct→Prop
 |refl (a:Ct):Ct.Reach a a
 |step {a b:Ct}:Ct.Reach a b→Ct.Reach a b.call.1
theorem Ct.Reach.trans {a b c:Ct} (h:Ct.Reach a b) (k:Ct.Reach b c):Ct.Reach a c:=by
 induction k with
 |refl=>exact h
 |step _ ih=>exact ih.step
theorem Ct.Reach.one (a:Ct):Ct.Reach a a.call.1:=(Ct.Reach.refl a).step
def Ct.hale (c:Ct):Prop:=c.dead=false∧c.stop=0∧c.fail=0
theorem Ct.hale.call {c:Ct} (h:c.hale):c.call=(c,0):=by
 obtain⟨d,s,f⟩:=c;obtain⟨h1,h2,h3⟩:=h;simp only at h1 h2 h3;subst h1 h2 h3;rfl
theorem Ct.hale.reach {a b:Ct} (h:a.hale) (r:Ct.Reach a b):b=a:=by
 induction r with
 |refl=>rfl
 |step _ ih=>rw[ih,h.call]
namespace Co
variable (c:Co)
def create (s:List UInt8):Co:={ c with names:=c.names.put s c.files.length,turns:=c.turns++[⟨1,c.files.length,s,[]⟩],files:=c.files++[([],0)] }
def jy (i:Nat) (f:List UInt8×Nat):Co:={ c with files:=c.files.set i f }
def rename (a b:List UInt8):Co:={ c with names:=Tn.go ⟨2,0,a,b⟩ c.names,turns:=c.turns++[⟨2,0,a,b⟩] }
def remove (s:List UInt8):Co:={ c with names:=Tn.go ⟨3,0,s,[]⟩ c.names,turns:=c.turns++[⟨3,0,s,[]⟩] }
def ax:Co:={ c with lasted:=c.names,turns:=[] }
def total:Nat:=(c.files.map fun f=>f.1.length).sum
def made (l:List Tn):List Nat:=(l.filter fun t=>decide (t.kind=1)).map (·.file)
structure In:Prop where
 apart:Nm.Apart c.names
 lapart:Nm.Apart c.lasted
 lead:Sd.fz1 c.names c.files.length
 llead:Sd.fz1 c.lasted c.files.length
 inj:∀p∈c.names,∀q∈c.names,p.2=q.2→p.1=q.1
 linj:∀p∈c.lasted,∀q∈c.lasted,p.2=q.2→p.1=q.1
 nodup:(made c.turns).Nodup
 fresh:∀i∈made c.turns,i < c.files.length∧∀p∈c.lasted,p.2≠i
 whole:c.names=c.turns.foldl (fun m u=>u.go m) c.lasted
 tb:∀u∈c.turns,u.b.length≤16
def most:Nat:=c.lasted.length+(made c.turns).length
def Now (s t:List UInt8) (l:Nat):Prop:=∃i,c.names.get s=some i∧c.files[i]?=some (t,l)
def off (s:List UInt8) (t:Tn):Prop:=t.a≠s∧(t.kind=2→t.b≠s)
def Held (s t:List UInt8) (l:Nat):Prop:=∃i,c.names.get s=some i∧c.lasted.get s=some i∧c.files[i]?=some (t,l)∧∀u∈c.turns,off s u
end Co
open Co
variable {c:Co} {s t b:List UInt8} {l:Nat}
theorem go_get {m:Nm} (h:Nm.Apart m) {u:Tn} (ho:off s u):(u.go m).get s=m.get s:=by
 unfold Tn.go;split
 ·exact Nm.nz h ho.1.symm _
 ·split
  ·split
   ·rename_i hk _ i _
    have h2:=ho.2 hk;rw[Nm.cy1 (Nm.ax1 h _ _) ho.1.symm,Nm.nz h h2.symm]
   ·rfl
  ·split
   ·exact Nm.cy1 h ho.1.symm
   ·rfl
theorem go_mem {m:Nm} {u:Tn} {p:List UInt8×Nat} (hp:p∈u.go m):(u.kind=1∧p=(u.a,u.file))∨∃q∈m,q.2=p.2:=by
 unfold Tn.go at hp;split at hp
 ·rcases Nm.kz.1 hp with rfl|⟨h1,_⟩
  ·exact .inl ⟨‹_›,rfl⟩
  ·exact .inr ⟨p,h1,rfl⟩
 ·split at hp
  ·split at hp
   ·rename_i hg
    obtain⟨h1,_⟩:=Nm.vw.1 hp
    rcases Nm.kz.1 h1 with rfl|⟨h2,_⟩
    ·exact .inr ⟨_,Nm.get_mem hg,rfl⟩
    ·exact .inr ⟨p,h2,rfl⟩
   ·exact .inr ⟨p,hp,rfl⟩
  ·split at hp
   ·exact .inr ⟨p,(Nm.vw.1 hp).1,rfl⟩
   ·exact .inr ⟨p,hp,rfl⟩
theorem qv4 {m:Nm} {u:Tn} (h:∀p∈m,∀q∈m,p.2=q.2→p.1=q.1) (hf:u.kind=1→∀p∈m,p.2≠u.file):∀p∈u.go m,∀q∈u.go m,p.2=q.2→p.1=q.1:=by
 intro p hp q hq he;unfold Tn.go at hp hq;split at hp
 ·rename_i hk
  rw[if_pos hk]at hq
  rcases Nm.kz.1 hp with rfl|⟨hp,_⟩ <;>rcases Nm.kz.1 hq with rfl|⟨hq,_⟩
  ·rfl
  ·exact absurd he.symm (hf hk q hq)
  ·exact absurd he (hf hk p hp)
  ·exact h p hp q hq he
 ·rename_i hk
  rw[if_neg hk]at hq;split at hp
  ·rename_i hk2
   rw[if_pos hk2]at hq
   cases hg:m.get u.a with
   |none=>rw[hg]at hp hq;exact h p hp q hq he
   |some i=>
    rw[hg]at hp hq;simp only at hp hq;obtain⟨hp,hpa⟩:=Nm.vw.1 hp;obtain⟨hq,hqa⟩:=Nm.vw.1 hq;have ham:=Nm.get_mem hg
    rcases Nm.kz.1 hp with rfl|⟨hp,_⟩ <;>rcases Nm.kz.1 hq with rfl|⟨hq,_⟩
    ·rfl
    ·exact absurd (h _ ham q hq (by simpa using he)).symm hqa
    ·exact absurd (h p hp _ ham (by simpa using he)) hpa
    ·exact h p hp q hq he
  ·rename_i hk2
   rw[if_neg hk2]at hq;split at hp
   ·rename_i hk3
    rw[if_pos hk3]at hq;exact h p (Nm.vw.1 hp).1 q (Nm.vw.1 hq).1 he
   ·rename_i hk3
    rw[if_neg hk3]at hq;exact h p hp q hq he
theorem tq2 {m:Nm} (h:Nm.Apart m) (u:Tn):(u.go m).length≤m.length+if u.kind=1 then 1 else 0:=by
 unfold Tn.go;split
 ·exact Nm.av1 _ _ _
 ·split
  ·cases hg:m.get u.a with
   |none=>simp
   |some i=>
    simp only[Nat.add_zero]
    by_cases hab:u.a=u.b
    ·rw[hab]
     have h1:((m.put u.b i).del u.b).length < (m.put u.b i).length:=Nm.ik1 (Nm.zk h _ _);have:=Nm.av1 m u.b i;omega
    ·have hg2:(m.put u.b i).get u.a=some i:=by rw[Nm.nz h hab];exact hg
     have h1:=Nm.ik1 hg2;have:=Nm.av1 m u.b i;omega
  ·split
   ·exact Nm.gq1 _ _
   ·simp
theorem uj (a b:List Tn):made (a++b)=made a++made b:=by simp[made]
namespace Co
theorem Held.now (h:c.Held s t l):c.Now s t l:=let ⟨i,a,_,d,_⟩:=h;⟨i,a,d⟩
theorem In.create (h:c.In) (hg:c.names.get s=none):(c.create s).In:=by
 have hm:made (c.create s).turns=made c.turns++[c.files.length]:=by rw[Co.create,uj];rfl
 refine⟨Nm.ax1 h.apart _ _,h.lapart,?_,fun p hp=>?_,?_,h.linj,?_,?_,by simp only[Co.create];rw[List.foldl_append,←h.whole];rfl,fun u hu=>by
  rcases List.mem_append.1 hu with hu|hu
  ·exact h.tb u hu
  ·rw[List.mem_singleton.1 hu];exact Nat.zero_le _⟩
 ·intro p hp
  simp only[Co.create,List.length_append,List.length_cons,List.length_nil]
  rcases Nm.kz.1 hp with rfl|⟨hp,_⟩
  ·simp
  ·have:=h.lead p hp;omega
 ·simp only[Co.create,List.length_append,List.length_cons,List.length_nil]
  have:=h.llead p hp;omega
 ·intro p hp q hq he
  rcases Nm.kz.1 hp with rfl|⟨hp,_⟩ <;>rcases Nm.kz.1 hq with rfl|⟨hq,_⟩
  ·rfl
  ·have:=h.lead q hq;simp only at he;omega
  ·have:=h.lead p hp;simp only at he;omega
  ·exact h.inj p hp q hq he
 ·rw[hm]
  refine List.nodup_append.2 ⟨h.nodup,by simp,fun x hx y hy e=>?_⟩;have:=(h.fresh x hx).1;simp at hy;omega
 ·rw[hm]
  intro i hi;simp only[Co.create,List.length_append,List.length_cons,List.length_nil]
  rcases List.mem_append.1 hi with hi|hi
  ·obtain⟨a,b⟩:=h.fresh i hi
   exact⟨by omega,b⟩
  ·simp only[List.mem_singleton]at hi
   subst hi;exact⟨by omega,fun p hp e=>by have:=h.llead p hp;omega⟩
theorem aj2 (c:Co) (s:List UInt8):(c.create s).most=c.most+1:=by
 unfold most;rw[Co.create,uj];simp[made];omega
theorem sy1 (c:Co) (s:List UInt8):(c.create s).total=c.total:=by simp[total,Co.create]
theorem jk3 (h:c.In) (s:List UInt8):(c.create s).Now s [] 0:=⟨c.files.length,Nm.zk h.apart _ _,by simp[Co.create]⟩
theorem Now.create {u:List UInt8} (h:c.In) (k:c.Now s t l) (hne:s≠u):(c.create u).Now s t l:=by
 obtain⟨i,a,b⟩:=k;exact⟨i,(Nm.nz h.apart hne _).trans a,by rw[Co.create];simp only;rw[List.getElem?_append_left (List.getElem?_eq_some_iff.1 b).1];exact b⟩
theorem Held.create {u:List UInt8} (h:c.In) (k:c.Held s t l) (hne:s≠u):(c.create u).Held s t l:=by
 obtain⟨i,a,b,d,e⟩:=k;refine⟨i,(Nm.nz h.apart hne _).trans a,b,by rw[Co.create];simp only;rw[List.getElem?_append_left (List.getElem?_eq_some_iff.1 d).1];exact d,fun v hv=>?_⟩
 rcases List.mem_append.1 hv with hv|hv
 ·exact e v hv
 ·rw[List.mem_singleton.1 hv]
  exact⟨hne.symm,fun h=>by cases h⟩
theorem px3 {u:List UInt8} (h:c.In) (hne:s≠u):(c.create u).names.get s=c.names.get s:=Nm.nz h.apart hne _
theorem In.jy (h:c.In) (i:Nat) (f:List UInt8×Nat):(c.jy i f).In:=
 ⟨h.apart,h.lapart,by simpa [Co.jy] using h.lead,by simpa [Co.jy] using h.llead,h.inj,h.linj,h.nodup,by simpa [Co.jy] using h.fresh,h.whole,h.tb⟩
theorem tx4 (l:List Nat) (i x:Nat) (hi:i < l.length):(l.set i x).sum+l[i]=l.sum+x:=by
 induction l generalizing i with
 |nil=>simp at hi
 |cons a r ih=>
  cases i with
  |zero=>simp;omega
  |succ i=>
   have:=ih i (by simpa using hi);simp only[List.set_cons_succ,List.sum_cons,List.getElem_cons_succ];omega
theorem ov1 {i:Nat} {f g:List UInt8×Nat} (hg:c.files[i]?=some g):(c.jy i f).total+g.1.length=c.total+f.1.length:=by
 obtain⟨hi,e⟩:=List.getElem?_eq_some_iff.1 hg;unfold total Co.jy;simp only[List.map_set];have:=tx4 (c.files.map fun f=>f.1.length) i f.1.length (by simpa using hi);simpa [e] using this
theorem Now.set {i:Nat} (hg:c.names.get s=some i) {f:List UInt8×Nat} (hi:i < c.files.length):(c.jy i f).Now s f.1 f.2:=⟨i,hg,by simp[Co.jy,hi]⟩
theorem Now.other {u:List UInt8} {i:Nat} (h:c.In) (hg:c.names.get u=some i) (hne:s≠u) (k:c.Now s t l) (f:List UInt8×Nat):(c.jy i f).Now s t l:=by
 obtain⟨j,a,b⟩:=k;have hij:i≠j:=fun e=>hne (h.inj _ (Nm.get_mem a) _ (Nm.get_mem hg) (by simp[e]));exact⟨j,a,by simp only[Co.jy];rw[List.getElem?_set_ne hij];exact b⟩
theorem Held.other {u:List UInt8} {i:Nat} (h:c.In) (hg:c.names.get u=some i) (hne:s≠u) (k:c.Held s t l) (f:List UInt8×Nat):(c.jy i f).Held s t l:=by
 obtain⟨j,a,a2,b,e⟩:=k;have hij:i≠j:=fun e=>hne (h.inj _ (Nm.get_mem a) _ (Nm.get_mem hg) (by simp[e]));exact⟨j,a,a2,by simp only[Co.jy];rw[List.getElem?_set_ne hij];exact b,e⟩
theorem In.turn {u:Tn} (h:c.In) (hk:u.kind≠1) (hub:u.b.length≤16):({ c with names:=u.go c.names,turns:=c.turns++[u] }:Co).In:=by
 have hm:made (c.turns++[u])=made c.turns:=by rw[uj];simp[made,hk]
 refine⟨Sd.ux1 h.apart u,h.lapart,Sd.fz1.go h.lead u (fun e=>absurd e hk),h.llead,qv4 h.inj (fun e=>absurd e hk),h.linj,?_,?_,by simp only;rw[List.foldl_append,←h.whole];rfl,fun v hv=>by
  rcases List.mem_append.1 hv with hv|hv
  ·exact h.tb v hv
  ·rw[List.mem_singleton.1 hv];exact hub⟩
 ·simp only;rw[hm];exact h.nodup
 ·simp only;rw[hm];exact h.fresh
theorem In.remove (h:c.In) (s:List UInt8):(c.remove s).In:=h.turn (u:=⟨3,0,s,[]⟩) (by simp) (Nat.zero_le _)
theorem In.rename (h:c.In) (a b:List UInt8) (hb:b.length≤16):(c.rename a b).In:=h.turn (u:=⟨2,0,a,b⟩) (by simp) hb
theorem yq2 (c:Co) (s:List UInt8):(c.remove s).most=c.most:=by unfold most Co.remove;rw[uj];simp[made]
theorem ax3 (c:Co) (a b:List UInt8):(c.rename a b).most=c.most:=by unfold most Co.rename;rw[uj];simp[made]
theorem Now.remove {u:List UInt8} (h:c.In) (k:c.Now s t l) (hne:s≠u):(c.remove u).Now s t l:=by
 obtain⟨i,a,b⟩:=k;exact⟨i,(go_get (u:=⟨3,0,u,[]⟩) h.apart ⟨hne.symm,fun e=>by cases e⟩).trans a,b⟩
theorem Held.remove {u:List UInt8} (h:c.In) (k:c.Held s t l) (hne:s≠u):(c.remove u).Held s t l:=by
 obtain⟨i,a,b,d,e⟩:=k;refine⟨i,(go_get (u:=⟨3,0,u,[]⟩) h.apart ⟨hne.symm,fun e=>by cases e⟩).trans a,b,d,fun v hv=>?_⟩
 rcases List.mem_append.1 hv with hv|hv
 ·exact e v hv
 ·rw[List.mem_singleton.1 hv]
  exact⟨hne.symm,fun h=>by cases h⟩
theorem my3 {u:List UInt8} (h:c.In) (hne:s≠u):(c.remove u).names.get s=c.names.get s:=go_get (u:=⟨3,0,u,[]⟩) h.apart ⟨hne.symm,fun e=>by cases e⟩
theorem xy2 (h:c.In) (s:List UInt8):(c.remove s).names.get s=none:=by
 unfold Co.remove Tn.go;simp only[show ¬(3=1) by decide,show ¬(3=2) by decide,if_false,if_true];exact Nm.tj1 _ _
theorem ox3 {u:List UInt8} {p:List UInt8×Nat} (hp:p∈(c.remove u).names):p∈c.names∧p.1≠u:=by
 unfold Co.remove Tn.go at hp;simp only[show ¬(3=1) by decide,show ¬(3=2) by decide,if_false,if_true]at hp;exact Nm.vw.1 hp
theorem sx1 {a b:List UInt8} {i:Nat} (hg:c.names.get a=some i):(c.rename a b).names=(c.names.put b i).del a:=by
 unfold Co.rename Tn.go;simp[hg]
theorem Now.moved {a b:List UInt8} (h:c.In) (k:c.Now a t l) (hne:a≠b):(c.rename a b).Now b t l:=by
 obtain⟨i,g,d⟩:=k;refine⟨i,?_,d⟩;rw[sx1 g,Nm.cy1 (Nm.ax1 h.apart _ _) hne.symm,Nm.zk h.apart]
theorem Now.rename {a b:List UInt8} (h:c.In) (k:c.Now s t l) (ha:s≠a) (hb:s≠b):(c.rename a b).Now s t l:=by
 obtain⟨i,g,d⟩:=k;exact⟨i,(go_get (u:=⟨2,0,a,b⟩) h.apart ⟨ha.symm,fun _=>hb.symm⟩).trans g,d⟩
theorem Held.rename {a b:List UInt8} (h:c.In) (k:c.Held s t l) (ha:s≠a) (hb:s≠b):(c.rename a b).Held s t l:=by
 obtain⟨i,g,g2,d,e⟩:=k;refine⟨i,(go_get (u:=⟨2,0,a,b⟩) h.apart ⟨ha.symm,fun _=>hb.symm⟩).trans g,g2,d,fun v hv=>?_⟩
 rcases List.mem_append.1 hv with hv|hv
 ·exact e v hv
 ·rw[List.mem_singleton.1 hv]
  exact⟨ha.symm,fun _=>hb.symm⟩
theorem In.ax (h:c.In):c.ax.In:=⟨h.apart,h.apart,h.lead,h.lead,h.inj,h.inj,by simp[Co.ax,made],by simp[Co.ax,made],rfl,by simp[Co.ax]⟩
theorem Now.ax (k:c.Now s t l):c.ax.Held s t l:=by
 obtain⟨i,g,d⟩:=k;exact⟨i,g,g,d,fun v hv=>by simp[Co.ax]at hv⟩
theorem tq1 (c:Co):c.ax.most=c.names.length:=by simp[most,Co.ax,made]
structure Cr (c c':Co):Prop where
 quota:c'.quota=c.quota
 turns:c'.turns=[]
 same:c'.lasted=c'.names
 names:∃us:List Tn,us.Sublist c.turns∧c'.names=us.foldl (fun m u=>u.go m) c.lasted
 len:c'.files.length=c.files.length
 file:∀(i:Nat) (f:List UInt8×Nat),c.files[i]?=some f→∃f':List UInt8×Nat,c'.files[i]?=some f'∧f'.1.length≤f.1.length∧((∃p∈c'.names,p.2=i)→f.2≤f.1.length→∃m,f.2≤m∧m≤f.1.length∧f'=(f.1.take m,m))
theorem nw3 {us:List Tn}:∀{m:Nm},Nm.Apart m→Nm.Apart (us.foldl (fun m u=>u.go m) m):=by
 induction us with
 |nil=>intro m h;exact h
 |cons u r ih=>intro m h;exact ih (Sd.ux1 h u)
theorem jz3 {us:List Tn}:∀{m:Nm} {p:List UInt8×Nat},p∈us.foldl (fun m u=>u.go m) m→p.2∈made us∨∃q∈m,q.2=p.2:=by
 induction us with
 |nil=>intro m p h;exact .inr ⟨p,h,rfl⟩
 |cons u r ih=>
  intro m p h
  rcases ih h with h1|⟨q,hq,e⟩
  ·exact .inl (by rw[show u::r=[u] ++r from rfl,uj];exact List.mem_append_right _ h1)
  ·rcases go_mem hq with ⟨h1,h2⟩|⟨q2,h1,h2⟩
   ·refine .inl ?_
    rw[show u::r=[u] ++r from rfl,uj];refine List.mem_append_left _ ?_;rw[←e,h2];simp[made,h1]
   ·exact .inr ⟨q2,h1,h2.trans e⟩
theorem nv4 {us:List Tn}:∀{m:Nm},(∀p∈m,∀q∈m,p.2=q.2→p.1=q.1)→(made us).Nodup→(∀i∈made us,∀p∈m,p.2≠i)→∀p∈us.foldl (fun m u=>u.go m) m,∀q∈us.foldl (fun m u=>u.go m) m,p.2=q.2→p.1=q.1:=by
 induction us with
 |nil=>intro m h _ _;exact h
 |cons u r ih=>
  intro m h hn hf;rw[show u::r=[u] ++r from rfl,uj]at hn hf;obtain⟨_,n2,n3⟩:=List.nodup_append.1 hn;refine ih (qv4 h (fun hk p hp=>hf u.file (List.mem_append_left _ (by simp[made,hk])) p hp)) n2 (fun i hi p hp e=>?_)
  rcases go_mem hp with ⟨h1,h2⟩|⟨q,h1,h2⟩
  ·exact n3 u.file (by simp[made,h1]) i hi (by rw[←e,h2])
  ·exact hf i (List.mem_append_right _ hi) q h1 (h2.trans e)
theorem wx1 {us:List Tn}:∀{m:Nm},Nm.Apart m→(us.foldl (fun m u=>u.go m) m).length≤m.length+(made us).length:=by
 induction us with
 |nil=>intro m _;simp[made]
 |cons u r ih=>
  intro m h;have h1:=ih (Sd.ux1 h u);have h2:=tq2 h u;have h3:(made (u::r)).length=(if u.kind=1 then 1 else 0)+(made r).length:=by
   rw[show u::r=[u] ++r from rfl,uj,List.length_append]
   congr 1
   unfold made;split<;>simp[*]
  rw[List.foldl_cons,h3];omega
theorem mj2 {a b:List Tn} (h:a.Sublist b):(made a).Sublist (made b):=(h.filter _).map _
variable {c':Co}
theorem Cr.in_ (h:Cr c c') (hi:c.In):c'.In:=by
 obtain⟨us,hs,hn⟩:=h.names;have hm:=mj2 hs;have hap:Nm.Apart c'.names:=by rw[hn];exact nw3 hi.lapart
 have hinj:∀p∈c'.names,∀q∈c'.names,p.2=q.2→p.1=q.1:=by
  rw[hn];exact nv4 hi.linj (hi.nodup.sublist hm) (fun i hx p hp=>(hi.fresh i (hm.subset hx)).2 p hp)
 have hl:Sd.fz1 c'.names c'.files.length:=fun p hp=>by
  rw[h.len];rw[hn]at hp
  rcases jz3 hp with h1|⟨q,h1,h2⟩
  ·exact(hi.fresh _ (hm.subset h1)).1
  ·rw[←h2];exact hi.llead q h1
 exact⟨hap,by rw[h.same];exact hap,hl,by rw[h.same];exact hl,hinj,by rw[h.same];exact hinj,by rw[h.turns];simp[made],by rw[h.turns];simp[made],by rw[h.turns,h.same];rfl,by rw[h.turns];simp⟩
theorem Cr.zw3 (h:Cr c c') (hi:c.In):c'.most≤c.most∧c'.names.length≤c.most:=by
 obtain⟨us,hs,hn⟩:=h.names;have h1:=wx1 (us:=us) hi.lapart;rw[←hn]at h1;have h2:=(mj2 hs).length_le;unfold most;rw[h.same,h.turns];simp[made]at *;omega
end Co
end
section
open Go Go.RowKit
def Ct.Ends (a b:Ct) (er:Nat):Prop:=Ct.Reach a b∧(er≠0→∃c,Ct.Reach a c∧er=c.call.2∧b=c.call.1)
theorem Ct.Ends.one (a:Ct):Ct.Ends a a.call.1 a.call.2:=⟨Ct.Reach.one a,fun _=>⟨a,Ct.Reach.refl a,rfl,rfl⟩⟩
theorem Ct.Ends.none {a b:Ct} (h:Ct.Reach a b):Ct.Ends a b 0:=⟨h,fun e=>absurd rfl e⟩
theorem Ct.Ends.after {a b c:Ct} {er:Nat} (h:Ct.Reach a b) (k:Ct.Ends b c er):Ct.Ends a c er:=
 ⟨h.trans k.1,fun e=>let ⟨x,h1,h2,h3⟩:=k.2 e;⟨x,h.trans h1,h2,h3⟩⟩
namespace Sd
variable {d:Sd} {s b:List UInt8} {i:Nat} {f:List UInt8×Nat}
theorem nz1 (d:Sd) {l:List (List UInt8)} (hl:l.all named=true):(d.call l).1.co=d.co∧(d.call l).1.ct=d.ct.call.1∧(d.call l).2=d.ct.call.2:=by
 unfold call Ct.call;rw[if_neg (by simp[hl])];simp only[Sd.ct]
 by_cases h1:d.dead=true
 ·simp[h1,Sd.co]
 ·simp only[h1]
  by_cases h2:0 < d.stop<;>by_cases h3:0 < d.fail<;>by_cases h4:d.fail - 1=0<;>simp[h2,h3,h4,Sd.co] <;>rfl
theorem ty2 (hs:named s=true) (hg:d.names.get s=none) (hn:d.names.length < 64):(d.create s).2=d.ct.call.2∧(d.create s).1.ct=d.ct.call.1∧(d.create s).1.co=if d.ct.call.2=0 then d.co.create s else d.co:=by
 obtain⟨c1,c2,c3⟩:=d.nz1 (l:=[s]) (by simpa using hs);unfold create;rw[←c3]
 by_cases h:(d.call [s]).2=0
 ·rw[if_neg (by simp[h]),if_neg (by simp[hg]),if_neg (by omega),if_pos h]
  refine⟨h.symm,c2,?_⟩;have:=congrArg Co.quota c1;have t2:=congrArg Co.lasted c1;have t3:=congrArg Co.turns c1;simp only[co]at this t2 t3;simp[co,Co.create,this,t2]
 ·rw[if_pos h,if_neg h]
  exact⟨rfl,c2,c1⟩
theorem uq3 (e:(d.call [s]).1.co=d.co):({ (d.call [s]).1 with files:=d.files.set i f }:Sd).co=d.co.jy i f:=by
 have t1:=congrArg Co.quota e;have t2:=congrArg Co.lasted e;have t3:=congrArg Co.turns e;have t4:=congrArg Co.names e;simp only[co]at t1 t2 t3 t4;simp[co,Co.jy,t1,t2,t3,t4]
theorem rk2 (hs:named s=true) (hg:d.names.get s=some i) (hf:d.files[i]?=some f) (h1:f.1.length+b.length≤250000) (h2:d.used+b.length≤d.quota):(d.append s b).2=d.ct.call.2∧(d.append s b).1.ct=d.ct.call.1∧(d.append s b).1.co=if d.ct.call.2=0 then d.co.jy i (f.1++b,f.2) else d.co:=by
 obtain⟨c1,c2,c3⟩:=d.nz1 (l:=[s]) (by simpa using hs);have hgd:d.files.getD i ([],0)=f:=by rw[List.getD_eq_getElem?_getD,hf];rfl
 unfold append;rw[←c3]
 by_cases h:(d.call [s]).2=0
 ·rw[if_neg (by simp[h]),if_pos h,hg]
  simp only[size,hgd];rw[if_neg (by omega),if_neg (by omega)];exact⟨h.symm,c2,uq3 c1⟩
 ·rw[if_pos h,if_neg h]
  exact⟨rfl,c2,c1⟩
theorem bw3 (hs:named s=true) (hg:d.names.get s=some i) (hf:d.files[i]?=some f):(d.sync s).2=d.ct.call.2∧(d.sync s).1.ct=d.ct.call.1∧(d.sync s).1.co=if d.ct.call.2=0 then d.co.jy i (f.1,f.1.length) else d.co:=by
 obtain⟨c1,c2,c3⟩:=d.nz1 (l:=[s]) (by simpa using hs);have hgd:d.files.getD i ([],0)=f:=by rw[List.getD_eq_getElem?_getD,hf];rfl
 unfold sync;rw[←c3]
 by_cases h:(d.call [s]).2=0
 ·rw[if_neg (by simp[h]),if_pos h,hg]
  simp only[size,hgd];exact⟨h.symm,c2,uq3 c1⟩
 ·rw[if_pos h,if_neg h]
  exact⟨rfl,c2,c1⟩
theorem rq2 (hs:named s=true) (hg:d.names.get s=some i):(d.remove s).2=d.ct.call.2∧(d.remove s).1.ct=d.ct.call.1∧(d.remove s).1.co=if d.ct.call.2=0 then d.co.remove s else d.co:=by
 obtain⟨c1,c2,c3⟩:=d.nz1 (l:=[s]) (by simpa using hs);unfold remove;rw[←c3]
 by_cases h:(d.call [s]).2=0
 ·rw[if_neg (by simp[h]),if_neg (by simp[hg]),if_pos h]
  refine⟨h.symm,c2,?_⟩;have t1:=congrArg Co.quota c1;have t2:=congrArg Co.lasted c1;have t3:=congrArg Co.files c1;simp only[co]at t1 t2 t3;simp[co,Co.remove,t1,t2,t3]
 ·rw[if_pos h,if_neg h]
  exact⟨rfl,c2,c1⟩
theorem rj3 {a:List UInt8} (ha:named a=true) (hb:named b=true) (hne:a≠b) (hg:d.names.get a=some i):(d.rename a b).2=d.ct.call.2∧(d.rename a b).1.ct=d.ct.call.1∧(d.rename a b).1.co=if d.ct.call.2=0 then d.co.rename a b else d.co:=by
 obtain⟨c1,c2,c3⟩:=d.nz1 (l:=[a,b]) (by simp[ha,hb]);unfold rename;rw[←c3]
 by_cases h:(d.call [a,b]).2=0
 ·rw[if_neg (by simp[h]),if_neg (by simp[hg]),if_neg hne,if_pos h]
  refine⟨h.symm,c2,?_⟩;have t1:=congrArg Co.quota c1;have t2:=congrArg Co.lasted c1;have t3:=congrArg Co.files c1;simp only[co]at t1 t2 t3;simp[co,Co.rename,t1,t2,t3]
 ·rw[if_pos h,if_neg h]
  exact⟨rfl,c2,c1⟩
theorem ik2:(d.ax).2=d.ct.call.2∧(d.ax).1.ct=d.ct.call.1∧(d.ax).1.co=if d.ct.call.2=0 then d.co.ax else d.co:=by
 obtain⟨c1,c2,c3⟩:=d.nz1 (l:=[]) rfl;unfold ax;rw[←c3]
 by_cases h:(d.call []).2=0
 ·rw[if_neg (by simp[h]),if_pos h]
  refine⟨h.symm,c2,?_⟩;have t1:=congrArg Co.quota c1;have t2:=congrArg Co.names c1;have t3:=congrArg Co.files c1;simp only[co]at t1 t2 t3;simp[co,Co.ax,t1,t2,t3]
 ·rw[if_pos h,if_neg h]
  exact⟨rfl,c2,c1⟩
theorem qw2 (g:Nat→Nat):∀(n:Nat) (l:List Nat),l.Nodup→(∀x∈l,x < n)→(l.map g).sum≤((List.range n).map g).sum:=by
 intro n
 induction n with
 |zero=>
  intro l _ h
  cases l with
  |nil=>simp
  |cons a r=>have:=h a (by simp);omega
 |succ n ih=>
  intro l hn h;rw[List.range_succ,List.map_append,List.sum_append];simp only[List.map_cons,List.map_nil,List.sum_cons,List.sum_nil]
  by_cases hm:n∈l
  ·have hp:=List.perm_cons_erase hm
   have e:=(hp.map g).sum_nat;have:=ih (l.erase n) (hn.erase n) (fun x hx=>by
    have h1:=h x (List.mem_of_mem_erase hx);have h2:x≠n:=fun e=>by subst e;exact hn.not_mem_erase hx
    omega)
   rw[e];simp only[List.map_cons,List.sum_cons];omega
  ·have:=ih l hn (fun x hx=>by
    have h1:=h x hx;have h2:x≠n:=fun e=>hm (by rw[←e];exact hx);omega)
   omega
theorem oj3 (h:d.co.In):d.used≤d.co.total:=by
 have hn:(d.names.map (·.2)).Nodup:=by
  have h1:=h.apart;have h2:=h.inj;simp only[co]at h1 h2;unfold Nm.Apart at h1;rw[List.nodup_iff_pairwise_ne,List.pairwise_map];refine h1.imp_of_mem (fun {a b} ha hb hab e=>hab (h2 a ha b hb e))
 have hl:∀x∈d.names.map (·.2),x < d.files.length:=fun x hx=>by
  obtain⟨p,hp,rfl⟩:=List.mem_map.1 hx;exact h.lead p hp
 have:=qw2 d.size d.files.length (d.names.map (·.2)) hn hl;have e1:(d.names.map (·.2)).map d.size=d.names.map fun p=>d.size p.2:=by simp
 have e2:(List.range d.files.length).map d.size=d.files.map fun f=>f.1.length:=by
  refine List.ext_getElem (by simp) fun i h1 h2=>?_;simp only[List.length_map,List.length_range]at h1;simp[size,List.getD_eq_getElem?_getD,h1]
 rw[e1,e2]at this;exact this
end Sd
namespace Co
def aq5 (c:Co) (s:List UInt8):Prop:=(∃p∈c.names,p.1=s)∨(∃p∈c.lasted,p.1=s)∨∃u∈c.turns,u.a=s∨u.b=s
structure zq (N:List UInt8→Prop) (K:List (List UInt8)) (c c':Co) (k n:Nat):Prop where
 in_:c'.In
 quota:c'.quota=c.quota
 most:c'.most≤c.most+k
 total:c'.total≤c.total+n
 held:∀u,¬N u→∀t l,c.Held u t l→c'.Held u t l
 now:∀u,¬N u→∀t l,c.Now u t l→c'.Now u t l
 gone:∀u,¬N u→c.names.get u=none→c'.names.get u=none
 known:∀u,c'.aq5 u→c.aq5 u∨u∈K∨u=[]
variable {c c1 c2:Co} {N M:List UInt8→Prop} {K L:List (List UInt8)} {k k1 n n1:Nat} {s b t:List UInt8} {l:Nat}
theorem zq.refl (h:c.In) (N:List UInt8→Prop) (K:List (List UInt8)):zq N K c c 0 0:=⟨h,rfl,Nat.le_refl _,Nat.le_refl _,fun _ _ _ _ h=>h,fun _ _ _ _ h=>h,fun _ _ h=>h,fun _ h=>.inl h⟩
theorem zq.trans (h:zq N K c c1 k n) (g:zq N K c1 c2 k1 n1):zq N K c c2 (k+k1) (n+n1):=
 ⟨g.in_,g.quota.trans h.quota,by have:=h.most;have:=g.most;omega,by have:=h.total;have:=g.total;omega,fun u hu t l a=>g.held u hu t l (h.held u hu t l a),fun u hu t l a=>g.now u hu t l (h.now u hu t l a),fun u hu a=>g.gone u hu (h.gone u hu a),fun u a=>by
  rcases g.known u a with a|a|a
  ·exact h.known u a
  ·exact .inr (.inl a)
  ·exact .inr (.inr a)⟩
theorem zq.mono (h:zq N K c c1 k n) (hN:∀s,N s→M s) (hK:∀s∈K,s∈L) (hk:k≤k1) (hn:n≤n1):zq M L c c1 k1 n1:=
 ⟨h.in_,h.quota,by have:=h.most;omega,by have:=h.total;omega,fun u hu=>h.held u (fun a=>hu (hN u a)),fun u hu=>h.now u (fun a=>hu (hN u a)),fun u hu=>h.gone u (fun a=>hu (hN u a)),fun u a=>by
  rcases h.known u a with a|a|a
  ·exact .inl a
  ·exact .inr (.inl (hK u a))
  ·exact .inr (.inr a)⟩
theorem vw1 (h:c.In):c.names.length≤c.most:=by
 have:=wx1 (us:=c.turns) h.lapart;rw[←h.whole]at this;exact this
theorem sk2 (h:c.In) (hg:c.names.get s=none):zq (·=s) [s] c (c.create s) 1 0:=
 ⟨h.create hg,rfl,Nat.le_of_eq (aj2 c s),Nat.le_of_eq (sy1 c s),fun u hu t l a=>a.create h hu,fun u hu t l a=>a.create h hu,fun u hu a=>(px3 h hu).trans a,fun u hu=>by
  rcases hu with ⟨p,hp,rfl⟩|⟨p,hp,rfl⟩|⟨v,hv,e⟩
  ·rcases Nm.kz.1 hp with rfl|⟨hp,_⟩
   ·exact .inr (.inl (by simp))
   ·exact .inl (.inl ⟨p,hp,rfl⟩)
  ·exact .inl (.inr (.inl ⟨p,hp,rfl⟩))
  ·rcases List.mem_append.1 hv with hv|hv
   ·exact .inl (.inr (.inr ⟨v,hv,e⟩))
   ·rw[List.mem_singleton.1 hv]at e
    rcases e with rfl|rfl
    ·exact .inr (.inl (by simp))
    ·exact .inr (.inr rfl)⟩
theorem ov2 {i:Nat} {f g:List UInt8×Nat} (h:c.In) (hg:c.names.get s=some i) (hf:c.files[i]?=some f):zq (·=s) [] c (c.jy i g) 0 (g.1.length - f.1.length):=
 ⟨h.jy i g,rfl,Nat.le_refl _,by have:=ov1 (f:=g) hf;omega,fun u hu t l a=>a.other h hg hu g,fun u hu t l a=>a.other h hg hu g,fun u hu a=>a,fun u hu=>.inl hu⟩
theorem sw1 {i:Nat} (h:c.In) (hg:c.names.get s=some i):zq (·=s) [] c (c.remove s) 0 0:=
 ⟨h.remove s,rfl,Nat.le_of_eq (yq2 c s),Nat.le_refl _,fun u hu t l a=>a.remove h hu,fun u hu t l a=>a.remove h hu,fun u hu a=>(my3 h hu).trans a,fun u hu=>by
  rcases hu with ⟨p,hp,rfl⟩|⟨p,hp,rfl⟩|⟨v,hv,e⟩
  ·exact .inl (.inl ⟨p,(ox3 hp).1,rfl⟩)
  ·exact .inl (.inr (.inl ⟨p,hp,rfl⟩))
  ·rcases List.mem_append.1 hv with hv|hv
   ·exact .inl (.inr (.inr ⟨v,hv,e⟩))
   ·rw[List.mem_singleton.1 hv]at e
    rcases e with rfl|rfl
    ·exact .inl (.inl ⟨_,Nm.get_mem hg,rfl⟩)
    ·exact .inr (.inr rfl)⟩
theorem rv2 {a:List UInt8} {i:Nat} (h:c.In) (hb16:b.length≤16) (hg:c.names.get a=some i):zq (fun u=>u=a∨u=b) [a,b] c (c.rename a b) 0 0:=
 ⟨h.rename a b hb16,rfl,Nat.le_of_eq (ax3 c a b),Nat.le_refl _,fun u hu t l k=>k.rename h (fun e=>hu (.inl e)) (fun e=>hu (.inr e)),fun u hu t l k=>k.rename h (fun e=>hu (.inl e)) (fun e=>hu (.inr e)),fun u hu k=>by
  have ha:u≠a:=fun e=>hu (.inl e);have hb:u≠b:=fun e=>hu (.inr e);exact(go_get (u:=⟨2,0,a,b⟩) h.apart ⟨ha.symm,fun _=>hb.symm⟩).trans k,fun u hu=>by
  rcases hu with ⟨p,hp,rfl⟩|⟨p,hp,rfl⟩|⟨v,hv,e⟩
  ·rw[sx1 hg]at hp
   obtain⟨hp,_⟩:=Nm.vw.1 hp
   rcases Nm.kz.1 hp with rfl|⟨hp,_⟩
   ·exact .inr (.inl (by simp))
   ·exact .inl (.inl ⟨p,hp,rfl⟩)
  ·exact .inl (.inr (.inl ⟨p,hp,rfl⟩))
  ·rcases List.mem_append.1 hv with hv|hv
   ·exact .inl (.inr (.inr ⟨v,hv,e⟩))
   ·rw[List.mem_singleton.1 hv]at e
    rcases e with rfl|rfl<;>exact .inr (.inl (by simp))⟩
theorem qq1 (h:c.In):zq (fun _=>False) [] c c.ax 0 0:=
 ⟨h.ax,rfl,by rw[tq1];exact vw1 h,Nat.le_refl _,fun u _ t l a=>Co.Now.ax (Co.Held.now a),fun u _ t l a=>Co.Held.now (Co.Now.ax a),fun u _ a=>a,fun u hu=>by
  rcases hu with ⟨p,hp,rfl⟩|⟨p,hp,rfl⟩|⟨v,hv,e⟩
  ·exact .inl (.inl ⟨p,hp,rfl⟩)
  ·exact .inl (.inl ⟨p,hp,rfl⟩)
  ·simp[ax]at hv⟩
end Co
end
section
open Go Go.RowKit
open Co
namespace Sd
variable {d:Sd} {s b:List UInt8}
theorem lq1 (h:d.co.In) (s:List UInt8):Ct.Reach d.ct (d.remove s).1.ct∧zq (·=s) [] d.co (d.remove s).1.co 0 0:=by
 by_cases hs:named s=true
 ·obtain⟨c1,c2,c3⟩:=d.nz1 (l:=[s]) (by simpa using hs)
  have hr:=Ct.Reach.one d.ct
  cases hg:d.names.get s with
  |none=>
   unfold remove
   by_cases h0:(d.call [s]).2=0
   ·rw[if_neg (by simp[h0]),if_pos (by simp[hg])]
    exact⟨by rw[c2];exact hr,by rw[c1];exact zq.refl h _ _⟩
   ·rw[if_pos h0]
    exact⟨by rw[c2];exact hr,by rw[c1];exact zq.refl h _ _⟩
  |some i=>
   obtain⟨e1,e2,e3⟩:=rq2 hs hg;refine⟨by rw[e2];exact hr,?_⟩;rw[e3];split
   ·exact sw1 h hg
   ·exact zq.refl h _ _
 ·have hc:d.call [s]=(d,10):=by unfold call;rw[if_pos (by simpa using hs)]
  unfold remove;rw[hc,if_pos (by simp)];exact⟨Ct.Reach.refl _,zq.refl h _ _⟩
theorem vj2 (h:d.co.In) (hs:named s=true) (hg:d.names.get s=none) (hm:d.co.most < 64) (hb:b.length≤250000) (hq:d.co.total+b.length≤d.quota):
  Ct.Ends d.ct (d.write s b).1.ct (d.write s b).2∧zq (·=s) [s] d.co (d.write s b).1.co 1 b.length∧((d.write s b).2=0→(d.write s b).1.co.Now s b b.length):=by
 have hl:=vw1 h;obtain⟨c1,c2,c3⟩:=ty2 hs hg (by have:d.names.length≤d.co.most:=hl;omega);unfold write
 by_cases h0:d.ct.call.2=0
 ·rw[if_pos h0]at c3
  rw[if_neg (by rw[c1,h0];simp)];have k1:=sk2 h hg;rw[←c3]at k1;obtain⟨i,g1,f1⟩:=jk3 h s;rw[←c3]at g1 f1;have hr1:Ct.Reach d.ct (d.create s).1.ct:=by rw[c2];exact Ct.Reach.one _
  generalize (d.create s).1=d1 at *;have hu:=oj3 k1.in_;have hq1:d1.quota=d.quota:=k1.quota;have ht1:=k1.total;obtain⟨a1,a2,a3⟩:=rk2 (b:=b) hs g1 f1 (by simpa using hb) (by omega)
  by_cases h2:d1.ct.call.2=0
  ·rw[if_pos h2]at a3
   rw[if_neg (by rw[a1,h2];simp)];have k2:=ov2 (g:=(([]:List UInt8)++b,0)) k1.in_ g1 f1;rw[←a3]at k2;have n2:=Co.Now.set (f:=(([]:List UInt8)++b,0)) g1 (List.getElem?_eq_some_iff.1 f1).1;rw[←a3]at n2;obtain⟨j,g2,f2⟩:=n2;have hr2:Ct.Reach d.ct (d1.append s b).1.ct:=by rw[a2];exact hr1.step
   generalize (d1.append s b).1=d2 at *;obtain⟨b1,b2,b3⟩:=bw3 hs g2 f2;have hk2:zq (·=s) [s] d.co d2.co 1 b.length:=(k1.trans (k2.mono (fun _ h=>h) (fun _ h=>by cases h) (Nat.le_refl _) (Nat.le_refl _))).mono (fun _ h=>h) (fun _ h=>h) (by omega) (by simp);refine⟨by rw[b1,b2];exact Ct.Ends.after hr2 (Ct.Ends.one _),?_,fun h3=>?_⟩
   ·rw[b3]
    split
    ·exact(hk2.trans ((ov2 (g:=(([]:List UInt8)++b,(([]:List UInt8)++b).length)) k2.in_ g2 f2).mono (fun _ h=>h) (fun _ h=>by cases h) (Nat.le_refl _) (Nat.le_refl _))).mono (fun _ h=>h) (fun _ h=>h) (by omega) (by simp)
    ·exact hk2
   ·rw[b1]at h3
    rw[b3,if_pos h3];exact Co.Now.set (f:=(([]:List UInt8)++b,(([]:List UInt8)++b).length)) g2 (List.getElem?_eq_some_iff.1 f2).1
  ·rw[if_neg h2]at a3
   rw[if_pos (by rw[a1];exact h2)];refine⟨by rw[a1,a2];exact Ct.Ends.after hr1 (Ct.Ends.one _),by rw[a3];exact k1.mono (fun _ h=>h) (fun _ h=>h) (Nat.le_refl _) (Nat.zero_le _),fun h3=>absurd (by rw[←a1];exact h3) h2⟩
 ·rw[if_neg h0]at c3
  rw[if_pos (by rw[c1];exact h0)];refine⟨by rw[c1,c2];exact Ct.Ends.one _,by rw[c3];exact(zq.refl h _ _).mono (fun _ h=>h) (fun _ h=>h) (Nat.zero_le _) (Nat.zero_le _),fun h3=>absurd (by rw[←c1];exact h3) h0⟩
end Sd
namespace Co
variable {c c':Co} {s t:List UInt8} {l:Nat}
end Co
namespace Mw
open Mn
def NR (u:List UInt8):Prop:=u=gq∨u=kCur∨(number u kMan).isSome=true
theorem aw2 (nm:List UInt8):∀(l:List (List UInt8)) (d:Sd),d.co.In→Ct.Reach d.ct (sweep nm l d).ct∧zq (fun u=>u≠nm∧(number u kMan).isSome=true) [] d.co (sweep nm l d).co 0 0
 |[],d,h=>⟨Ct.Reach.refl _,zq.refl h _ _⟩
 |o::r,d,h=>by
  unfold sweep;split
  ·rename_i hc
   simp only[Bool.and_eq_true,Bool.not_eq_true',beq_eq_false_iff_ne]at hc;obtain⟨a1,a2⟩:=Sd.lq1 h o;obtain⟨b1,b2⟩:=aw2 nm r (d.remove o).1 a2.in_;exact⟨a1.trans b1,(a2.mono (fun u hu=>⟨by rw[hu];exact hc.2,by rw[hu];exact hc.1⟩) (fun _ h=>h) (Nat.le_refl _) (Nat.le_refl _)).trans b2⟩
  ·exact aw2 nm r d h
end Mw
namespace Gw
open Mn
open Mw (kCur gq headB sweep man NR yx1 ek1 iq1 dx1 dv1 qy ay1 dq1)
variable {d:Sd} {M:Gs} {nm:List UInt8}
theorem sv4 {k:Nat} {b:List UInt8} (hk1:1≤k) (hk2:k≤1073741824) (h:d.co.In) (hc:d.co.Now kCur (headB k) (headB k).length) (hb:d.co.Now (man k) b b.length):
  Ct.Ends d.ct (fin d M (man k)).1.ct (fin d M (man k)).2.2∧
  (((fin d M (man k)).2.2=0∧(fin d M (man k)).2.1={ M with name:=man k,count:=1 }∧zq NR [] d.co (fin d M (man k)).1.co 0 0∧(fin d M (man k)).1.co.most≤d.co.names.length∧(fin d M (man k)).1.co.Held kCur (headB k) (headB k).length∧(fin d M (man k)).1.co.Held (man k) b b.length)∨
   ((fin d M (man k)).2.2≠0∧(fin d M (man k)).2.1={ M with name:=man k,count:=1,broken:=true }∧(fin d M (man k)).1.co=d.co)):=by
 obtain⟨c1,c2,c3⟩:=Sd.ik2 (d:=d);unfold fin
 by_cases h0:d.ct.call.2=0
 ·rw[if_pos h0]at c3
  rw[if_neg (by rw[c1,h0];simp)];have k1:=qq1 h;rw[←c3]at k1;have e1:=Co.tq1 d.co;rw[←c3]at e1;have hc1:=Co.Now.ax hc;have hb1:=Co.Now.ax hb;rw[←c3]at hc1 hb1;have hr:Ct.Reach d.ct (d.ax).1.ct:=by rw[c2];exact Ct.Reach.one _
  generalize (d.ax).1=d1 at *;obtain⟨s1,s2⟩:=Mw.aw2 (man k) d1.list d1 k1.in_;have hcn:¬(kCur≠man k∧(number kCur kMan).isSome=true):=fun x=>by rw[dq1]at x;exact absurd x.2 (by simp)
  refine⟨Ct.Ends.none (hr.trans s1),.inl ⟨rfl,rfl,?_,?_,s2.held _ hcn _ _ hc1,s2.held _ (fun x=>x.1 rfl) _ _ hb1⟩⟩
  ·exact((k1.mono (fun _ h=>h.elim) (fun _ h=>h) (Nat.le_refl _) (Nat.le_refl _)).trans (s2.mono (fun u hu=>.inr (.inr hu.2)) (fun _ h=>h) (Nat.le_refl _) (Nat.le_refl _)))
  ·have:=s2.most
   simp only at *;omega
 ·rw[if_neg h0]at c3
  rw[if_pos (by rw[c1];exact h0)];exact⟨by simp only[c1,c2];exact Ct.Ends.one _,.inr ⟨by rw[c1];exact h0,rfl,c3⟩⟩
variable {n k:Nat} {t b:List UInt8} {l:Nat}
end Gw
end
end Go.Proofs.YthjdpplgfdihoaaGreatDoor
