/- Some of the texts. No conditions. -/
import Derived.Test.YtkdbagdiplpcfaaGreatDoorBunBG

set_option linter.unusedSimpArgs false
set_option linter.unusedVariables false
set_option maxRecDepth 100000
set_option maxHeartbeats 16000000
namespace Go.Proofs.YtkdbagdiplpcfaaGreatDoor
open Go.Proofs.Tryz Go Go.RowKit Go.Lib Go.Shelf
section
variable {w w0 w1 w2:World} {X X1 X2:Dw} {S S1 S2:Sd} {Y Y1 Y2:Yw} {V V1 V2:Sv} {g gw i:Nat} {R:Sl} {L:List It} {mt:Mt}
theorem uk5 (h:Ws w0 w gw X S Y V R L mt) (H:Pl.PlI S V L mt i) (J:Pl.Lg_ V i) (hi:i<=49) (A:Option Addr) (n c:Nat) (m:Mt) (v:Nat) (s x y z:Int) (K:Option Addr) (kn kc:Nat):
  Calls prog 7 #[.pointer (some ⟨gw,0,none⟩),.agg #[.int .i64 1,.slice A n c,.int .u64 (m.floor:Int),.int .u64 (m.cert:Int),.int .u64 (m.at_:Int),.int .u64 (m.lease:Int),.int .u64 (v:Int),.int .i64 s,.int .i64 x,.int .i64 y,.int .i64 z,.slice K kn kc]] w (vz1 w0 gw i):=by
 have hd:=Dg.born h #[.int .i64 1,.slice A n c,.int .u64 (m.floor:Int),.int .u64 (m.cert:Int),.int .u64 (m.at_:Int),.int .u64 (m.lease:Int),.int .u64 (v:Int),.int .i64 s,.int .i64 x,.int .i64 y,.int .i64 z,.slice K kn kc];have has:=H.asks o_;obtain⟨S4,C,E⟩:=H.sync o_;have I:=qj4 hd.ws.at_ (by rw[H.p.nm];exact ik1 _ _);rw[C]at I;have Z:=hd.ws.box.c1;have O:=H_ I;have Q:=H_ hd;have HP:=H_ (c_ E (J.step (Pl.Lz.refl V)));clear I hd H J has C E h;go_enter func7,ntmps7;go_wp2_with fail
 refine m_ O ?_
 rintro e w3 ⟨rfl,U⟩;obtain⟨X4,Y4,h4,c4⟩:=Q.out.ws.upd U.up;have H4:=H_ h4;clear U h4 c4 O Q Z;go_wp2;go_ret;exact⟨rfl,_,_,_,_,_,_,_,H4.out,HP.out⟩
theorem yx5 (h:Ws w0 w gw X S Y V R L mt) (hp:Pl.PlI S V L mt i) (hz:Pl.Lg_ V i) (hi:i<=49) (A:Option Addr) (n c:Nat) (m:Mt) (v:Nat) (s x y z:Int) (K:Option Addr) (kn kc:Nat):
  Calls prog 7 #[.pointer (some ⟨gw,0,none⟩),.agg #[.int .i64 2,.slice A n c,.int .u64 (m.floor:Int),.int .u64 (m.cert:Int),.int .u64 (m.at_:Int),.int .u64 (m.lease:Int),.int .u64 (v:Int),.int .i64 s,.int .i64 x,.int .i64 y,.int .i64 z,.slice K kn kc]] w (vz1 w0 gw i):=by
 have hd:=Dg.born h #[.int .i64 2,.slice A n c,.int .u64 (m.floor:Int),.int .u64 (m.cert:Int),.int .u64 (m.at_:Int),.int .u64 (m.lease:Int),.int .u64 (v:Int),.int .i64 s,.int .i64 x,.int .i64 y,.int .i64 z,.slice K kn kc];have has:=hp.asks o_;obtain⟨S4,Z,er,H,C,a1⟩:=hp.flush o_;have hc:=ww1 hd.ws.at_ has.good has.fit (by have:=has.mem;omega) (by have:=has.st;omega) has.files has.log (by have:=has.count;omega) has.name (by have:=has.load;omega);have E:=hz.step (Pl.rw3 S V);rw[H]at hc E;have m1:=hd.ws.box.c1;have HC:=H_ hc;have HD:=H_ hd;have HP:=H_ (c_ C E);have I:=H_ (C.asks o_).tabs;clear hc hd hp hz has H C E h;go_enter func7,ntmps7;go_wp2_with fail
 refine m_ HC ?_
 rintro e w3 ⟨rfl,hu⟩;obtain⟨X4,Y4,h4,c4⟩:=HD.out.ws.upd hu;have J:Hid (Ws w0 w3 gw X4 S4 Y4 Z R L mt):=H_ h4;clear hu h4 c4 HC HD m1
 rcases a1 with rfl|⟨rfl,a4⟩
 ·clear I
  go_wp2;go_ret;exact⟨rfl,_,_,_,_,_,_,_,J.out,HP.out⟩
 ·skip
  have O:=(jj1 J.out.at_ (by have:=I.out;omega));have b6:∀(a b d:Int) (f:Bool) W',(Instr.field 42 (.agg #[.int .i64 a,.int .i64 b,.int .i64 (Z.tabs.length:Int),.int .i64 d,.bool f]) 2).run prog W'=.ok (.int .i64 (Z.tabs.length:Int)) W':=fun _ _ _ _ _=>rfl;have b7:(30:Int)<=(Z.tabs.length:Int):=o_
  have m1:=J.out.box.c1;have Q:=H_ O;clear O a4;go_wp2_with fail
  refine m_ Q ?_
  rintro e w5 ⟨rfl,U⟩;have H5:=H_ (J.out.below U);clear U Q J;go_wp2;go_ret;exact⟨rfl,_,_,_,_,_,_,_,H5.out,HP.out⟩
theorem vk5 (h:Ws w0 w gw X S Y V R L mt) (I:Pl.PlI S V L mt i) (hz:Pl.Lg_ V i) (hi:i<=49) (A:Option Addr) (n c:Nat) (m:Mt) (v:Nat) (s x y z:Int) (K:Option Addr) (kn kc:Nat):
  Calls prog 7 #[.pointer (some ⟨gw,0,none⟩),.agg #[.int .i64 3,.slice A n c,.int .u64 (m.floor:Int),.int .u64 (m.cert:Int),.int .u64 (m.at_:Int),.int .u64 (m.lease:Int),.int .u64 (v:Int),.int .i64 s,.int .i64 x,.int .i64 y,.int .i64 z,.slice K kn kc]] w (vz1 w0 gw i):=by
 have hd:=Dg.born h #[.int .i64 3,.slice A n c,.int .u64 (m.floor:Int),.int .u64 (m.cert:Int),.int .u64 (m.at_:Int),.int .u64 (m.lease:Int),.int .u64 (v:Int),.int .i64 s,.int .i64 x,.int .i64 y,.int .i64 z,.slice K kn kc];have has:=I.asks o_;obtain⟨d1,d2,d3,d4⟩:=Pl.qq1 I.p;have hc:=tw4 hd.ws.at_ has.only I.g (I.mrg o_ 0) d1 (by have:=has.load;omega);have m1:=hd.ws.box.c1;have HC:=H_ hc;have HD:=H_ hd;have J:=H_ (c_ I (c_ hz (c_ d1 d3)));clear hc hd I hz has h d1 d2 d3 d4;go_enter func7,ntmps7;go_wp2_with fail
 refine m_ HC ?_
 rintro e w3 ⟨hs,C,rfl,U⟩;have E:hs.map (fun h=>h.hd.num)=V.tabs.map fun t=>t.1.2:=by
  have:=congrArg (List.map Hd.num) C;rw[aK_,aK_]at this;exact this
 obtain⟨S4,V4,b,O,Q⟩:=J.out.1.step o_ (pk:=pkOf hs) (fun inn lev Z=>by
  have:=aq6 E J.out.2.2.1 inn lev Z;exact⟨this.1,fun q hq=>J.out.2.2.2 q (this.2.1 q hq),this.2.2⟩)
 have H:=J.out.2.1.step (Pl.xj5 S V (pkOf hs));rw[O]at U H ⊢;obtain⟨X4,Y4,h4,c4⟩:=HD.out.ws.upd U;have H4:=H_ h4;have a0:=H_ (c_ Q H);clear U h4 c4 HC HD m1 C E O Q H J;simp only;go_wp2;go_ret;exact⟨rfl,_,_,_,_,_,_,_,H4.out,a0.out⟩
theorem kz13 {P S a oi v} (h:Hv P S a oi v:=by intro w C;(have m1:=C.1.c1;have a6:=C.2.c6);go_simp;try (with_reducible rfl)):Hv P S a oi v:=h
theorem kz14 {P S a oi v} (h:Hv P S a oi v:=by intro w C;skip;go_simp;try (with_reducible rfl)):Hv P S a oi v:=h
theorem uy5 (h:Ws w0 w gw X S Y V R L mt) (hp:Pl.PlI S V L mt i) (hz:Pl.Lg_ V i) (hi:i<=49) (A:Option Addr) (n c:Nat) (m:Mt) (v:Nat) (s x y z:Int) (K:Option Addr) (kn kc:Nat):
  Calls prog 7 #[.pointer (some ⟨gw,0,none⟩),.agg #[.int .i64 4,.slice A n c,.int .u64 (m.floor:Int),.int .u64 (m.cert:Int),.int .u64 (m.at_:Int),.int .u64 (m.lease:Int),.int .u64 (v:Int),.int .i64 s,.int .i64 x,.int .i64 y,.int .i64 z,.slice K kn kc]] w (vz1 w0 gw i):=by
 have hd:=Dg.born h #[.int .i64 4,.slice A n c,.int .u64 (m.floor:Int),.int .u64 (m.cert:Int),.int .u64 (m.at_:Int),.int .u64 (m.lease:Int),.int .u64 (v:Int),.int .i64 s,.int .i64 x,.int .i64 y,.int .i64 z,.slice K kn kc];have has:=hp.asks o_;obtain⟨g3,a4⟩:=n_ w.heap.size;obtain⟨W,hW⟩:=n_ (w.alloc (.cells #[.int .i64 4,.slice A n c,.int .u64 (m.floor:Int),.int .u64 (m.cert:Int),.int .u64 (m.at_:Int),.int .u64 (m.lease:Int),.int .u64 (v:Int),.int .i64 s,.int .i64 x,.int .i64 y,.int .i64 z,.slice K kn kc] 32));rw[<-a4,<-hW]at hd;obtain⟨S4,V4,er,a5,U⟩:=hp.yj o_ v;have b5:∀W',Below W.heap.size W W'->Calls prog 19 #[.pointer (some ⟨Y.s,0,none⟩),.int .u64 (v:Int)] W' fun e w'=>e=.returned (.int .i64 (er:Int))/\aw1 X Y W' w' S4 V4:=fun W' hb=>by
  have:=oy3 (hd.ws.below hb).at_ v has.good has.fit (by have:=has.mem;omega) (by have:=has.st;omega) has.files has.log (by have:=has.count;omega) has.name (by have:=has.load;omega) (hp.zj3 o_ v);rw[a5]at this;exact this
 have a8:=hz.step (Pl.qw4 S V v);rw[a5]at a8;have b6:=H_ b5;have HD:=H_ hd;have HP:=H_ (c_ U (c_ a8 hp.len));have HW:=H_ (c_ hW a4);clear b5 hd hp hz has a5 U a8 h hW a4;go_enter func7,ntmps7;go_wp2_with fail;rw[<-HW.out.1,<-HW.out.2];refine wp_region_held_drew (S:=fun w'=>BoxO w' 39 gw [.pointer (some ⟨X.d,0,none⟩),.pointer (some ⟨Y.s,0,none⟩),.slice R.a R.n R.c,.int .u64 (mt.floor:Int),.int .u64 (mt.cert:Int),.int .u64 (mt.at_:Int),.int .u64 (mt.lease:Int)]/\BoxO w' 32 g3 [.int .i64 4,.slice A n c,.int .u64 (m.floor:Int),.int .u64 (m.cert:Int),.int .u64 (m.at_:Int),.int .u64 (m.lease:Int),.int .u64 (v:Int),.int .i64 s,.int .i64 x,.int .i64 y,.int .i64 z,.slice K kn kc]) rfl ⟨HD.out.ws.box.drew,HD.out.bx.drew⟩ (fun C=>?_);refine w_v 0 C ?_ (k:=kz13);go_simp;refine w_v 1 C ?_ (k:=kz13);go_simp;refine w_v 2 C ?_ (k:=kz13);go_simp;refine w_v 3 C ?_ (k:=kz13);go_simp;refine w_v 4 C ?_ (k:=kz13);go_simp;refine w_v 5 C ?_ (k:=kz13);go_simp;refine w_r 6 fun K E=>?_;go_simp
 with_reducible refine(b6.out _ (ak b0_)).mono ?_
 rintro e w3 ⟨rfl,hu⟩;replace hu:=H_ hu;go_simp;refine E.out _ _ ⟨C.1.chg hu.out.c HD.out.g.1,C.2.chg hu.out.c HD.out.g.2.1⟩ ?_;clear C E K;intro C;go_simp;refine w_v 7 C ?_ (k:=kz13);go_simp;refine w_d ?_;obtain⟨X4,Y4,h4,c4⟩:=(HD.out.ws.below (ak (Below.refl W.heap.size W))).upd hu.out;have H:=H_ C;have H4:=H_ h4;clear C hu c4 h4 b6 HD HW
 rcases HP.out.1 with ⟨rfl,d1,Q⟩|⟨rfl,Q⟩
 ·have a1:=H_ (c_ Q HP.out.2.1)
  have d2:=H_ (Q.asks o_).tabs;have b7:=(jj1 H4.out.at_ (by have:=d2.out;omega));have e0:∀(a b d:Int) (f:Bool) W',(Instr.field 42 (.agg #[.int .i64 a,.int .i64 b,.int .i64 (V4.tabs.length:Int),.int .i64 d,.bool f]) 2).run prog W'=.ok (.int .i64 (V4.tabs.length:Int)) W':=fun _ _ _ _ _=>rfl;have e1:(30:Int)<=(V4.tabs.length:Int):=o_
  have m1:=H4.out.box.c1;have b8:=H_ b7;clear b7 d1 Q HP H;go_wp2_with fail
  refine m_ b8 ?_
  rintro e w5 ⟨rfl,b9⟩;have H5:=H_ (H4.out.below b9);clear b9 b8 H4;go_wp2;go_ret;exact⟨rfl,_,_,_,_,_,_,_,H5.out,a1.out⟩
 ·have a1:=H_ (c_ Q HP.out.2.1)
  have HJ:=H_ (zy3 R.a R.n R.c L v w3.drew (by have h1:=H4.out.row.qj;have h2:=HP.out.2.2;omega) (H4.out.row.below (ak b0_)));clear Q HP;go_wp2_with fail;refine wp_region_held_drew (S:=fun _=>True) rfl trivial (fun C=>?_);refine w_v 0 C ?_ (k:=kz14);go_simp;refine w_v 1 C ?_ (k:=kz14);go_simp;refine w_v 2 C ?_ (k:=kz14);go_simp;refine w_v 3 C ?_ (k:=kz14);go_simp;refine w_v 5 C ?_ (k:=kz14);go_simp;refine wpAnyH_ready (rs:=[4,6]) (by kernel_rfl) s_ ?_;refine AllReadyH.cons rfl (fun K E=>?_) (AllReadyH.cons rfl (fun K E=>?_) AllReadyH.nil)
  ·have m2:w3.drew.cell? ⟨gw,2,none⟩=some (.slice R.a R.n R.c):=H.out.1.cell 2
   go_simp;refine E.out _ _ trivial ?_;clear C E K;intro C;go_simp;refine w_r 6 fun K E=>?_
   ·have a6:w3.drew.cell? ⟨g3,6,none⟩=some (.int .u64 (v:Int)):=H.out.2.cell 6
    go_simp;refine E.out _ _ trivial ?_;clear C E K;intro C;go_simp;refine w_r 7 fun K E=>?_;go_simp
    refine m_ HJ ?_
    rintro e w6 ⟨A6,k6,c6,rfl,Z,I,J⟩;replace Z:=H_ Z;go_simp;refine E.out _ _ trivial ?_;clear C E K;intro C;go_simp;refine w_v 8 C ?_ (k:=kz14);go_simp;refine w_v 9 C ?_ (k:=kz14);go_simp;refine w_r 10 fun K E=>?_
    (have O:=H.out.1.drew.below J;have s2:=O.c2;have z2:=O.free 2)
    go_simp;refine E.out _ _ trivial ?_;clear C E K;intro C;go_simp;refine w_d ?_;have a9:=H_ (H4.out.radd (az (ak (Below.refl w3.heap.size w3)) J) c6 I.row (.inr I.low));clear C I J O s2 z2 HJ H;go_wp2;go_ret;exact⟨rfl,_,_,_,_,_,_,_,a9.out,a1.out⟩
  ·have a6:w3.drew.cell? ⟨g3,6,none⟩=some (.int .u64 (v:Int)):=H.out.2.cell 6
   go_simp;refine E.out _ _ trivial ?_;clear C E K;intro C;go_simp;refine w_r 4 fun K E=>?_
   ·have m2:w3.drew.cell? ⟨gw,2,none⟩=some (.slice R.a R.n R.c):=H.out.1.cell 2
    go_simp;refine E.out _ _ trivial ?_;clear C E K;intro C;go_simp;refine w_r 7 fun K E=>?_;go_simp
    refine m_ HJ ?_
    rintro e w6 ⟨A6,k6,c6,rfl,Z,I,J⟩;replace Z:=H_ Z;go_simp;refine E.out _ _ trivial ?_;clear C E K;intro C;go_simp;refine w_v 8 C ?_ (k:=kz14);go_simp;refine w_v 9 C ?_ (k:=kz14);go_simp;refine w_r 10 fun K E=>?_
    (have O:=H.out.1.drew.below J;have s2:=O.c2;have z2:=O.free 2)
    go_simp;refine E.out _ _ trivial ?_;clear C E K;intro C;go_simp;refine w_d ?_;have a9:=H_ (H4.out.radd (az (ak (Below.refl w3.heap.size w3)) J) c6 I.row (.inr I.low));clear C I J O s2 z2 HJ H;go_wp2;go_ret;exact⟨rfl,_,_,_,_,_,_,_,a9.out,a1.out⟩
theorem kz15 {P S a oi v} (h:Hv P S a oi v:=by intro w C;(have m1:=C.1.c1;have m3:=C.1.c3;have m4:=C.1.c4;have m5:=C.1.c5;have m6:=C.1.c6;have a2:=C.2.c2;have a3:=C.2.c3;have a4:=C.2.c4;have a5:=C.2.c5);go_simp;try (with_reducible rfl)):Hv P S a oi v:=h
theorem kz16 {P S a oi v} (h:Hv P S a oi v:=by intro w C;(have m1:=C.1.c1;have a2:=C.2.c2;have a3:=C.2.c3;have a4:=C.2.c4;have a5:=C.2.c5);go_simp;try (with_reducible rfl)):Hv P S a oi v:=h
theorem xw5 (h:Ws w0 w gw X S Y V R L mt) (hp:Pl.PlI S V L mt i) (hz:Pl.Lg_ V i) (hi:i<=49) (A:Option Addr) (n c:Nat) (m:Mt) (v:Nat) (s x y z:Int) (K:Option Addr) (kn kc:Nat):
  Calls prog 7 #[.pointer (some ⟨gw,0,none⟩),.agg #[.int .i64 5,.slice A n c,.int .u64 (m.floor:Int),.int .u64 (m.cert:Int),.int .u64 (m.at_:Int),.int .u64 (m.lease:Int),.int .u64 (v:Int),.int .i64 s,.int .i64 x,.int .i64 y,.int .i64 z,.slice K kn kc]] w (vz1 w0 gw i):=by
 have hd:=Dg.born h #[.int .i64 5,.slice A n c,.int .u64 (m.floor:Int),.int .u64 (m.cert:Int),.int .u64 (m.at_:Int),.int .u64 (m.lease:Int),.int .u64 (v:Int),.int .i64 s,.int .i64 x,.int .i64 y,.int .i64 z,.slice K kn kc];have has:=hp.asks o_;obtain⟨g3,a1⟩:=n_ w.heap.size;obtain⟨W,hW⟩:=n_ (w.alloc (.cells #[.int .i64 5,.slice A n c,.int .u64 (m.floor:Int),.int .u64 (m.cert:Int),.int .u64 (m.at_:Int),.int .u64 (m.lease:Int),.int .u64 (v:Int),.int .i64 s,.int .i64 x,.int .i64 y,.int .i64 z,.slice K kn kc] 32));rw[<-a1,<-hW]at hd;have I:∀E,Calls prog 21 #[mt.val,m.val] E fun e w'=>e=.returned (.int .i64 (if St.aj1 m mt then 0 else 1))/\Below E.heap.size E w':=fun E=>mq3 mt m E;have J:∀E,Below W.heap.size W E->Calls prog 22 #[.pointer (some ⟨Y.s,0,none⟩),m.val] E (yw X Y E (St.pv1 S V m)):=fun E hb=>yk2 (hd.ws.below hb).at_ m has.files (by have:=has.count;omega) has.name;unfold Mt.val at I J;obtain⟨ok,a6⟩:∃ok:Bool,ok=decide (St.aj1 m mt):=⟨_,rfl⟩;obtain⟨H,a7⟩:∃H:Nat,H=if ok=true then 0 else 1:=⟨_,rfl⟩
 obtain⟨S4,V4,b7,b8⟩:∃S4 V4,St.pv1 S V m=(S4,V4,H)/\Pl.PlI S4 V4 L (if H=0 then m else mt) (i+1)/\Pl.Lg_ V4 (i+1):=by
  unfold St.pv1;rw[if_neg (by rw[has.only];simp),hp.mt,a7,a6]
  by_cases O:St.aj1 m mt
  ·obtain⟨S4,V4,q1,q2⟩:=hp.setm o_ O
   have b9:=hz.step (Pl.tk5 S V m);rw[q1]at b9;unfold St.setMeta at q1;rw[if_neg (by rw[has.only];simp)]at q1;exact⟨S4,V4,by rw[if_pos O,q1];simp[O],by simpa [O] using q2,b9⟩
  ·exact⟨S,V,by simp[O],by simpa [O] using hp.same,hz.step (Pl.Lz.refl V)⟩
 have b':(if St.aj1 m mt then (0:Int) else 1)=(H:Int):=by
  rw[a7,a6]
  by_cases O:St.aj1 m mt
  ·simp[O]
  ·simp[O]
 rw[b']at I;rw[b7]at J;have c9:=H_ I;have c':=H_ J;have HD:=H_ hd;have HP:=H_ b8;have HW:=H_ (c_ hW a1);clear I J hd hp hz has b7 b8 b' a7 a6 h hW a1;go_enter func7,ntmps7;go_wp2_with fail;rw[<-HW.out.1,<-HW.out.2];refine wp_region_held_drew (S:=fun w'=>BoxO w' 39 gw [.pointer (some ⟨X.d,0,none⟩),.pointer (some ⟨Y.s,0,none⟩),.slice R.a R.n R.c,.int .u64 (mt.floor:Int),.int .u64 (mt.cert:Int),.int .u64 (mt.at_:Int),.int .u64 (mt.lease:Int)]/\BoxO w' 32 g3 [.int .i64 5,.slice A n c,.int .u64 (m.floor:Int),.int .u64 (m.cert:Int),.int .u64 (m.at_:Int),.int .u64 (m.lease:Int),.int .u64 (v:Int),.int .i64 s,.int .i64 x,.int .i64 y,.int .i64 z,.slice K kn kc]) rfl ⟨HD.out.ws.box.drew,HD.out.bx.drew⟩ (fun C=>?_);refine w_v 0 C ?_ (k:=kz15);go_simp;refine w_v 1 C ?_ (k:=kz15);go_simp;refine w_v 2 C ?_ (k:=kz15);go_simp;refine w_v 3 C ?_ (k:=kz15);go_simp;refine w_v 4 C ?_ (k:=kz15);go_simp;refine w_v 5 C ?_ (k:=kz15);go_simp;refine w_r 6 fun K hK=>?_;go_simp
 with_reducible refine(c9.out _).mono ?_
 rintro e w3 ⟨rfl,Q⟩;go_simp;refine hK.out _ _ ⟨C.1.below Q,C.2.below Q⟩ ?_;clear C hK K;intro C;go_simp;refine w_v 7 C ?_ (k:=kz15);go_simp;refine w_d ?_;have U:=H_ (az (ak (Below.refl W.heap.size W)) Q);have a9:=H_ C;have d7:((H:Int) !=(H:Int))=false:=by simp
 clear C Q c9;go_wp2_with fail;refine wp_region_held_drew (S:=fun w'=>BoxO w' 39 gw [.pointer (some ⟨X.d,0,none⟩),.pointer (some ⟨Y.s,0,none⟩),.slice R.a R.n R.c,.int .u64 (mt.floor:Int),.int .u64 (mt.cert:Int),.int .u64 (mt.at_:Int),.int .u64 (mt.lease:Int)]/\BoxO w' 32 g3 [.int .i64 5,.slice A n c,.int .u64 (m.floor:Int),.int .u64 (m.cert:Int),.int .u64 (m.at_:Int),.int .u64 (m.lease:Int),.int .u64 (v:Int),.int .i64 s,.int .i64 x,.int .i64 y,.int .i64 z,.slice K kn kc]) rfl ⟨a9.out.1.drew,a9.out.2.drew⟩ (fun C=>?_);refine w_v 0 C ?_ (k:=kz16);go_simp;refine w_v 1 C ?_ (k:=kz16);go_simp;refine w_v 2 C ?_ (k:=kz16);go_simp;refine w_v 3 C ?_ (k:=kz16);go_simp;refine w_v 4 C ?_ (k:=kz16);go_simp;refine w_v 5 C ?_ (k:=kz16);go_simp;refine w_v 7 C ?_ (k:=kz16);go_simp;refine w_r 6 fun K hK=>?_;go_simp
 with_reducible refine(c'.out _ (ak U.out)).mono ?_
 rintro e w4 ⟨rfl,hu⟩;replace hu:=H_ hu.up;go_simp;refine hK.out _ _ ⟨C.1.chg hu.out.c HD.out.g.1,C.2.chg hu.out.c HD.out.g.2.1⟩ ?_;clear C hK K;intro C;go_simp;refine w_v 8 C ?_ (k:=kz16);go_simp;refine w_d ?_;obtain⟨X4,Y4,h4,c4⟩:=(HD.out.ws.below (ak U.out)).upd hu.out;have Z:=H_ C;have H4:=H_ h4;clear C hu c4 h4 c' a9 d7 HW
 by_cases h0:H=0
 ·have e0:((H:Int)==0)=true:=by simp[h0]
  have hP:=HP.out;rw[if_pos h0]at hP;have b0:=H_ hP;have d8:=H_ (H4.out.mset m);have hx:=Z.out.1;have ha:=Z.out.2;have a2:=ha.c2;have a3:=ha.c3;have a4:=ha.c4;have a5:=ha.c5;have s3:=hx.c3;have s4:=hx.c4;have s5:=hx.c5;have s6:=hx.c6;have z3:=hx.free 3;have z4:=hx.free 4;have z5:=hx.free 5;have z6:=hx.free 6;clear hP HP h0 Z U HD hx ha;go_wp2;go_ret;exact⟨rfl,_,_,_,_,_,_,_,d8.out,b0.out⟩
 ·have e0:((H:Int)==0)=false:=by simp;omega
  have hP:=HP.out;rw[if_neg h0]at hP;have b0:=H_ hP;clear hP HP h0 Z U HD;go_wp2;go_ret;exact⟨rfl,_,_,_,_,_,_,_,H4.out,b0.out⟩
theorem kz17 {P S a oi v} (h:Hv P S a oi v:=by intro w C;(have m1:=C.1.c1;have m2:=C.1.c2;have a1:=C.2.c1;have a6:=C.2.c6;have a7:=C.2.c7);go_simp;try (with_reducible rfl)):Hv P S a oi v:=h
theorem wv5 (h:Ws w0 w gw X S Y V R L mt) (J:Pl.PlI S V L mt i) (hz:Pl.Lg_ V i) (hi:i<=49) (A:Option Addr) (n c:Nat) (m:Mt) (v:Nat) (s x y z:Int) (K:Option Addr) (kn kc:Nat) (k:Int) (hk:k < 0\/5 < k) (hn:n<=60):
  Calls prog 7 #[.pointer (some ⟨gw,0,none⟩),.agg #[.int .i64 k,.slice A n c,.int .u64 (m.floor:Int),.int .u64 (m.cert:Int),.int .u64 (m.at_:Int),.int .u64 (m.lease:Int),.int .u64 (v:Int),.int .i64 s,.int .i64 x,.int .i64 y,.int .i64 z,.slice K kn kc]] w (vz1 w0 gw i):=by
 have hd:=Dg.born h #[.int .i64 k,.slice A n c,.int .u64 (m.floor:Int),.int .u64 (m.cert:Int),.int .u64 (m.at_:Int),.int .u64 (m.lease:Int),.int .u64 (v:Int),.int .i64 s,.int .i64 x,.int .i64 y,.int .i64 z,.slice K kn kc];have has:=J.asks o_;obtain⟨g3,I⟩:=n_ w.heap.size;obtain⟨W,hW⟩:=n_ (w.alloc (.cells #[.int .i64 k,.slice A n c,.int .u64 (m.floor:Int),.int .u64 (m.cert:Int),.int .u64 (m.at_:Int),.int .u64 (m.lease:Int),.int .u64 (v:Int),.int .i64 s,.int .i64 x,.int .i64 y,.int .i64 z,.slice K kn kc] 32));rw[<-I,<-hW]at hd;have e0:(k==0)=false:=by simp;omega
 have e1:(k==1)=false:=by simp;omega
 have e2:(k==2)=false:=by simp;omega
 have e3:(k==3)=false:=by simp;omega
 have e4:(k==4)=false:=by simp;omega
 have e5:(k==5)=false:=by simp;omega
 obtain⟨E,hh⟩:∃E:Nat,E=(v+n) % 18446744073709551616:=⟨_,rfl⟩;have a2:IntKind.u64.wrap (n:Int)=(n:Int):=IntWalk.u64_in _ o_;have a4:IntKind.u64.wrap ((v:Int)+(n:Int))=(E:Int):=by
  rw[IntKind.wrap_u64,hh];omega
 have O:∀Q,Below W.heap.size W Q->Calls prog 23 #[.pointer (some ⟨Y.s,0,none⟩),.slice R.a R.n R.c,.int .i64 s,.int .u64 (v:Int),.int .u64 (E:Int)] Q fun e w'=>e=.returned (.bool true)/\Below Q.heap.size Q w':=fun Q hb=>mx5 (hd.ws.below hb) J.st J.len (by have:=has.tabs;omega) s v E;have U:=H_ O;have Z:=H_ hd;have HP:=H_ (c_ J.same (hz.step (Pl.Lz.refl V)));have HW:=H_ (c_ hW I);clear O hd J hz has h hW I hk hh;go_enter func7,ntmps7;go_wp2_with fail;rw[<-HW.out.1,<-HW.out.2];refine wp_region_held_drew (S:=fun w'=>BoxO w' 39 gw [.pointer (some ⟨X.d,0,none⟩),.pointer (some ⟨Y.s,0,none⟩),.slice R.a R.n R.c,.int .u64 (mt.floor:Int),.int .u64 (mt.cert:Int),.int .u64 (mt.at_:Int),.int .u64 (mt.lease:Int)]/\BoxO w' 32 g3 [.int .i64 k,.slice A n c,.int .u64 (m.floor:Int),.int .u64 (m.cert:Int),.int .u64 (m.at_:Int),.int .u64 (m.lease:Int),.int .u64 (v:Int),.int .i64 s,.int .i64 x,.int .i64 y,.int .i64 z,.slice K kn kc]) rfl ⟨Z.out.ws.box.drew,Z.out.bx.drew⟩ (fun C=>?_);refine w_v 0 C ?_ (k:=kz17);go_simp;refine w_v 1 C ?_ (k:=kz17);go_simp;refine w_v 2 C ?_ (k:=kz17);go_simp;refine w_v 3 C ?_ (k:=kz17);go_simp;refine w_v 4 C ?_ (k:=kz17);go_simp;refine w_v 5 C ?_ (k:=kz17);go_simp;refine w_v 6 C ?_ (k:=kz17);go_simp;refine w_v 7 C ?_ (k:=kz17);go_simp;refine w_v 8 C ?_ (k:=kz17);go_simp;refine w_v 9 C ?_ (k:=kz17);go_simp;refine w_v 10 C ?_ (k:=kz17);go_simp;refine w_v 11 C ?_ (k:=kz17);go_simp;refine w_v 12 C ?_ (k:=kz17);go_simp;refine w_v 13 C ?_ (k:=kz17);go_simp;refine w_v 14 C ?_ (k:=kz17);go_simp;refine w_v 15 C ?_ (k:=kz17);go_simp;refine w_v 16 C ?_ (k:=kz17);go_simp;refine w_v 17 C ?_ (k:=kz17);go_simp;refine w_v 18 C ?_ (k:=kz17);go_simp;refine w_r 19 fun K hK=>?_;go_simp
 with_reducible refine(U.out _ (ak b0_)).mono ?_
 rintro e w3 ⟨rfl,H⟩;go_simp;refine hK.out _ _ ⟨C.1.below H,C.2.below H⟩ ?_;clear C hK K;intro C;go_simp;refine w_v 20 C ?_ (k:=kz17);go_simp;refine w_d ?_;have H4:=H_ (Z.out.ws.below (az (ak (Below.refl W.heap.size W)) H));clear C H U Z HW a2 a4;go_wp2;go_ret;exact⟨rfl,_,_,_,_,_,_,_,H4.out,HP.out⟩
end
end Go.Proofs.YtkdbagdiplpcfaaGreatDoor
