/-
  The walk of NodeGone.
-/
import Derived.Test.YthjdpplgfdihoaaGreatDoorBunBL
namespace Go.Proofs.YthjdpplgfdihoaaGreatDoor
open Go Go.RowKit Go.Lib Go.Shelf
variable {w w0 w1 w2:World} {X X1 X2:Dw} {S S1 S2:Sd} {Y Y1 Y2:Yw} {V V1 V2:Sv} {nb now grace:Nat} {ni:Int}
theorem ay3 (f:Nat) (hf:f < 18446744073709551616) (k:Nat) (hk:k < 64):∃m:Nat,bits .and .u64 (f:Int) ((2 ^ k - 1:Nat):Int)=(m:Int)∧m < 2 ^ k:=by
 obtain⟨m,h1,h2,_⟩:=qk3 (BitVec.ofNat 64 f) k hk;rw[BitVec.toNat_ofNat,X_ hf]at h1;exact⟨m,h1,h2⟩
theorem tx3 (he:Env w) (hd:DK w1 X (Sd.new 1048576)) (hb:Below w.heap.size w w1) (hf:∀g∈X.foot,w.heap.size≤g) (grace:Nat) (hgr:grace≤1099511627776):
  Calls Tryz.prog 14 #[.int .i64 0,.pointer (some ⟨X.d,0,none⟩),.int .u64 (grace:Int)] w1 fun e w'=>∃nb X' Y S',e=.returned (.tuple #[.pointer (some ⟨nb,0,none⟩),.int .i64 0])∧GnI w w' nb [] X' S' Y Nd.v0 0 grace∧Nd.NS 1048576 S' Nd.v0 0 100∧S'.load≤1000:=by
 obtain⟨S',hcr,hns⟩:=Nd.born 1048576 (by omega) (by omega);refine(sy2 (fx5 (by omega) he hd hb hf) rfl (by rw[show (Sd.new 1048576).list=[] by simp[Sd.list,Sd.new]];intro s hs;cases hs) (by show 0≤_;omega) S' Nd.v0 hcr (by decide) (by decide) 0 grace (by omega) hgr).mono ?_;rintro e w' ⟨nb,X',Y,rfl,e1,h3,c,f,hnb⟩;have hlow:∀g∈XY X' Y,w.heap.size≤g:=fun g hg=>by
  rcases f g hg with z|z
  ·exact hf g z
  ·exact h_ hb.size z
 exact⟨nb,X',Y,S',rfl,⟨⟨h3,hlow,hb.trans (c.below hb.size hf)⟩,fun p hp=>(by cases hp),by have:=hb.size;omega⟩,hns,Gn.iy4 (by omega) hcr⟩
theorem yz4 (S0:Sd) (h:Nd.NS 1048576 S0 Nd.v0 0 100) (hl:S0.load≤1000) {u v:Nat} (hu:1≤u∧u≤v) (hv:v≤90000):
  ∃S1 V1 S2 V2 S3 V3 S4 S5 V5 S6,GnV Nd.v0∧St.put S0 Nd.v0 [Gn.x u]=(S1,V1,some (2,0,[]))∧GnV V1∧St.put S1 V1 [Gn.t v]=(S2,V2,some (2,0,[]))∧
   GnV V2∧V2.st=[Gn.t v]∧St.seal S2 V2 (v+5)=(S3,V3,some (7,v+5,[Gn.t v]))∧
   GnV V3∧St.fill S3 V3 (v+5) [Gn.t v]=(S4,V3,true)∧St.even S4 V3 (v+5) 0=(S5,V5)∧GnK S5 S6 V5 u v:=by
 obtain⟨S1,V1,p1,n1,e1,S2,V2,p2,n2,e2,q2,S3,V3,p3,n3,e3,S4,p4,S5,V5,p5,g5,e5⟩:=Gn.five S0 h hu hv;have l1:=Gn.vx4 S0 Nd.v0 [Gn.x u];have l2:=Gn.vx4 S1 V1 [Gn.t v];have l3:=Gn.dx5 S2 V2 (v+5);have l4:=Gn.zw4 S3 V3 (v+5) [Gn.t v];have l5:=Gn.cz5 S4 V3 (v+5) 0;rw[p1]at l1;rw[p2]at l2;rw[p3]at l3;rw[p4]at l4;rw[p5]at l5;simp only at l1 l2 l3 l4 l5;have l6:S5.load≤1000:=by omega
 obtain⟨S6,p6⟩:=Gn.ey5 g5 l6;have gv:∀{V:Sv},Nrm V→V.M.v=Nd.v0.M.v→GnV V:=fun {V} hn hv=>⟨hn,by rw[hv];exact t_ _,by rw[hv];exact t_ _,by rw[hv];rfl,by rw[hv];rfl⟩;exact⟨S1,V1,S2,V2,S3,V3,S4,S5,V5,S6,gv (h.nrm (by omega) (by omega) (by show 0≤_;omega)) rfl,p1,gv n1 e1,p2,gv n2 e2,q2,p3,⟨n3,by rw[e3];show v+5≤_;omega,by rw[e3];show 0≤_;omega,by rw[e3];rfl,by rw[e3];rfl⟩,p4,p5,g5,e5,p6,l6,hu,hv⟩
theorem jq5 (w:World) (o:Obj):(w.alloc o).heap.size=w.heap.size+1:=by simp
theorem mv4 {u:Nat}:(Gn.x u).fit:=⟨show (-9223372036854775808:Int)≤1 by decide,show (1:Int) < 9223372036854775808 by decide⟩
theorem yj4 {u:Nat}:(Gn.t u).fit:=⟨show (-9223372036854775808:Int)≤0 by decide,show (0:Int) < 9223372036854775808 by decide⟩
theorem kz36 {P S a oi v} (h:Hv P S a oi v:=by intro w hSw;(obtain⟨y0,y1,y2,y3,y4⟩:=(HI4.out.below hSw).cx HTL.out);go_simp;try (with_reducible rfl)):Hv P S a oi v:=h
set_option maxRecDepth 100000 in
set_option maxHeartbeats 16000000 in
theorem oz2 (v low grace:Nat) (turn:Int) (hv:v < 18446744073709551616) (hl:low < 18446744073709551616) (hg:grace < 18446744073709551616) (he:Env w):
  Calls Tryz.prog 7 #[.int .u64 (v:Int),.int .u64 (low:Int),.int .u64 (grace:Int),.int .i64 turn] w fun e w'=>e=.returned (.bool true)∧Below w.heap.size w w':=by
 obtain⟨mv,hmv,hmv1⟩:=ay3 v hv 16 (by omega);have hmv':bits .and .u64 (v:Int) 65535=(mv:Int):=hmv;obtain⟨ml,hml,hml1⟩:=ay3 low hl 16 (by omega);have hml':bits .and .u64 (low:Int) 65535=(ml:Int):=hml;obtain⟨mg,hmg,hmg1⟩:=ay3 grace hg 4 (by omega);have hmg':bits .and .u64 (grace:Int) 15=(mg:Int):=hmg;obtain⟨tm,htm,htm1⟩:=fk3 turn 2 (by omega);have htm':bits .and .i64 turn 3=(tm:Int):=htm;have HTM:=H_ (d_ htm' htm1);clear hmv hml hmg htm htm' htm1;have HDN:=H_ (jv3 1048576 w);have HE:=H_ he;have HM:=H_ (d_ hmv' hml');have HL:=H_ (d_ hmv1 (d_ hml1 hmg1));clear he hmv' hml' hmv1 hml1 hl hv hg;go_enter Tryz.func7,Tryz.ntmps7;go_wp2_with fail
 with_reducible refine HDN.out.mono ?_
 rintro e w1 ⟨X0,rfl,hdk,hb1,hfo⟩;have HOP:=H_ (tx3 HE.out hdk hb1 hfo mg (by have:=HL.out.2.2;omega));clear hdk hb1 hfo HDN;go_wp2_with fail
 with_reducible refine HOP.out.mono ?_
 rintro e w2 ⟨nb,X,Y,S,rfl,hI,hns,hld⟩;have HI0:=H_ hI;have HN0:=H_ (d_ hns hld);clear hI hns hld HOP hmg1;obtain⟨a,ha⟩:=n_ (mv+20);obtain⟨p,hp⟩:=n_ (ml % a);obtain⟨u,hu⟩:=n_ (p+1);obtain⟨F,hF⟩:=n_ (a+5);have hpa:p < a:=by rw[hp];exact bm_ _ (by omega)
 have HU:Hid ((1≤u∧u≤a)∧20≤a∧a≤90000∧F=a+5∧p < 90000):=H_ (by have:=HL.out.1;omega);have ha1:(mv:Int)+20=(a:Int):=by omega
 have hrem:(ml:Int).tmod (a:Int)=(p:Int):=by rw[hp];rfl
 have hu1:(p:Int)+1=(u:Int):=by omega
 have hF1:(a:Int)+5=(F:Int):=by omega
 have hwa:IntKind.u64.wrap (a:Int)=(a:Int):=aY_ _ (by have:=HU.out;omega);have hwp:IntKind.u64.wrap (p:Int)=(p:Int):=aY_ _ (by have:=HU.out;omega);have hwu:IntKind.u64.wrap (u:Int)=(u:Int):=aY_ _ (by have:=HU.out;omega);have hwF:IntKind.u64.wrap (F:Int)=(F:Int):=aY_ _ (by have:=HU.out;omega);have ha0:((a:Int)==0)=false:=by have:=HU.out;simp;omega
 have ha00:((a:Int)=0)=False:=by have:=HU.out;simp;omega
 have ha000:(a=0)=False:=eq_false (by have:=HU.out;omega);have hmv':=HM.out.1;have hml':=HM.out.2;obtain⟨S1,V1,S2,V2,S3,V3,S4,S5,V5,S6,gv0,m1,gv1,m2,gv2,st2,m3,gv3,m4,m5,hK⟩:=yz4 S HN0.out.1 HN0.out.2 (u:=u) (v:=a) HU.out.1 HU.out.2.2.1;have HOX:Hid ((Gn.x u).ok=true∧(Gn.t a).ok=true):=H_ ⟨Gn.x_ok (by have:=HU.out;omega),Gn.t_ok (by have:=HU.out;omega)⟩;have HM1:=H_ (d_ gv0 (d_ m1 (d_ gv1 m2)));have HM2:=H_ (d_ gv2 (d_ st2 m3));have HM3:=H_ (d_ gv3 (d_ m4 m5));have HK:=H_ hK;clear gv0 m1 gv1 m2 gv2 st2 m3 gv3 m4 m5 hK HN0 hp hu hF ha hpa;go_upto_region 10 with (fail)
 have hI1:=(HI0.out.add #[.int .i64 4,.int .i64 2,.int .u64 9,.int .u64 (u:Int),.int .i64 1] 36).add #[.int .i64 4,.int .i64 1,.int .u64 0,.int .u64 (a:Int),.int .i64 0] 36;rw[show (w2.alloc (.cells #[.int .i64 4,.int .i64 2,.int .u64 9,.int .u64 (u:Int),.int .i64 1] 36)).heap.size=w2.heap.size+1 by simp]at hI1;obtain⟨W,hW⟩:=n_ ((w2.alloc (.cells #[.int .i64 4,.int .i64 2,.int .u64 9,.int .u64 (u:Int),.int .i64 1] 36)).alloc (.cells #[.int .i64 4,.int .i64 1,.int .u64 0,.int .u64 (a:Int),.int .i64 0] 36));rw[←hW]at hI1 ⊢;obtain⟨L,hL,hxl,htl⟩:∃L,GnI w W nb L X S Y Nd.v0 0 mg∧(w2.heap.size,36,[.int .i64 4,.int .i64 2,.int .u64 9,.int .u64 (u:Int),.int .i64 1])∈L∧(w2.heap.size+1,36,[.int .i64 4,.int .i64 1,.int .u64 0,.int .u64 (a:Int),.int .i64 0])∈L:=⟨_,hI1,.tail _ (.head _),.head _⟩;have HXL:=H_ hxl;have HTL:=H_ htl;obtain⟨x0,x1,x2,x3,x4⟩:=hL.cx hxl;have hz:=hL.one (Gn.x u) #[.int .i64 4,.int .i64 2,.int .u64 9,.int .u64 (u:Int),.int .i64 1] rfl;have HQ:=H_ (jj3 hz.1 HM1.out.1 1 1 rfl (by omega) HOX.out.1 mv4 HM1.out.2.1 _ hz.2.1 hz.2.2);clear hz hW hI1 hL hxl htl HI0 ha1 hrem hu1 hF1 hwa hwp hwu ha0 ha00 ha000 hmv' hml' HM;go_wp2_with fail
 with_reducible refine HQ.out.mono ?_
 rintro e w3 ⟨A3,n3,c3,X3,Y3,rfl,hI3⟩;obtain⟨y0,y1,y2,y3,y4⟩:=hI3.cx HTL.out;have hz:=hI3.one (Gn.t a) #[.int .i64 4,.int .i64 1,.int .u64 0,.int .u64 (a:Int),.int .i64 0] rfl;have HQ2:=H_ (jj3 hz.1 HM1.out.2.2.1 2 2 rfl (by omega) HOX.out.2 yj4 HM1.out.2.2.2 _ hz.2.1 hz.2.2);clear hz hI3 HQ x0 x1 x2 x3 x4 HM1;go_wp2_with fail
 with_reducible refine HQ2.out.mono ?_
 rintro e w4 ⟨A4,n4,c4,X4,Y4,rfl,hI4⟩;have HST:Hid (∀V,Below w4.heap.size w4 V→Calls Tryz.prog 18 #[.pointer (some ⟨nb,0,none⟩)] V fun e w'=>∃A c,e=.returned (.slice A 1 c)∧Row w'.heap.size w' A 1 5 (itc [Gn.t a])∧Below V.heap.size V w'):=H_ fun V hV=>by
  have:=mq3 (hI4.below hV) 1 (by rw[HM2.out.2.1];rfl) (by omega);rw[HM2.out.2.1]at this;exact this
 have HEQ:Hid (∀(V:World) A c B,Row V.heap.size V A 1 5 (itc [Gn.t a])→Row V.heap.size V B 1 5 (itc [Gn.t a])→Calls Tryz.prog 17 #[.slice A 1 c,.slice B 1 1] V fun e w'=>e=.returned (.bool true)∧Below V.heap.size V w'):=H_ fun V A c B h1 h2=>(oy3 A 1 c _ B 1 1 _ V (by omega) (by omega) h1 h2).mono fun e w' ⟨a,b⟩=>⟨by rw[a];simp,b⟩;have hob:∀V:World,Row (V.alloc (.cells #[.int .i64 4,.int .i64 1,.int .u64 0,.int .u64 (a:Int),.int .i64 0] 36)).heap.size (V.alloc (.cells #[.int .i64 4,.int .i64 1,.int .u64 0,.int .u64 (a:Int),.int .i64 0] 36)) (some ⟨V.heap.size,0,none⟩) 1 5 (itc [Gn.t a]):=fun V:World=>(Row.new V #[.int .i64 4,.int .i64 1,.int .u64 0,.int .u64 (a:Int),.int .i64 0] 36 (n:=1) (size:=5) rfl).up (by simp);have HR:=H_ hob;have HRD:=H_ (fun V:World=>hob V.drew);have HI4:=H_ hI4;clear hob hI4 HQ2 y0 y1 y2 y3 y4;go_upto_region 12 with (fail)
 go_cut [62] from 57 (fun s wx=>s=.bool false∧Below w4.heap.size w4 wx)
 case first=>
  refine wp_region_held_drew (S:=fun w'=>Below w4.heap.size w4 w') rfl (ak b0_) (fun hSw=>?_);refine w_v 0 hSw ?_ (k:=kz36);go_simp;refine w_v 2 hSw ?_ (k:=kz36);go_simp;refine wpAnyH_ready (rs:=[1,3]) (by kernel_rfl) (by simp) ?_;refine AllReadyH.cons rfl (fun K hK=>?_) (AllReadyH.cons rfl (fun K hK=>?_) AllReadyH.nil)
  ·go_simp
   with_reducible refine(HST.out _ hSw).mono ?_
   rintro e w8 ⟨A8,c8,rfl,hr8,hb8⟩;go_simp;refine hK.out _ _ (az hSw hb8) ?_;clear hSw hK K;intro hSw;go_simp;refine w_r 3 fun K hK=>?_
   ·go_simp
    refine hK.out _ _ (hSw.alloc hSw.size _) ?_;clear hSw hK K;intro hSw;go_simp;refine w_r 4 fun K hK=>?_;go_simp
    first|refine(HEQ.out _ A8 c8 _ hr8 (((HRD.out w4).below hb8).up hb8.size)).mono ?_|with_reducible refine(HEQ.out _ _ _ _ ((hr8.alloc l_ _).up (by simp)) (HR.out _)).mono ?_
    rintro e w9 ⟨rfl,hb9⟩;go_simp;refine hK.out _ _ (az hSw hb9) ?_;clear hSw hK K;intro hSw;go_simp;refine w_v 5 hSw ?_ (k:=kz36);go_simp;refine wpAnyH_done (by kernel_rfl) ?_ _;have hmeet:=hSw;clear hSw HST HEQ HR HRD HI4 HM2 HM3 HK HU HL HE HTL HXL;go_wp2_with fail
    go_meet
    exact⟨rfl,hmeet⟩
  ·go_simp
   refine hK.out _ _ (hSw.alloc hSw.size _) ?_;clear hSw hK K;intro hSw;go_simp;refine w_r 1 fun K hK=>?_
   ·go_simp
    with_reducible refine(HST.out _ hSw).mono ?_
    rintro e w8 ⟨A8,c8,rfl,hr8,hb8⟩;go_simp;refine hK.out _ _ (az hSw hb8) ?_;clear hSw hK K;intro hSw;go_simp;refine w_r 4 fun K hK=>?_;go_simp
    first|refine(HEQ.out _ A8 c8 _ hr8 (((HRD.out w4).below hb8).up hb8.size)).mono ?_|with_reducible refine(HEQ.out _ _ _ _ ((hr8.alloc l_ _).up (by simp)) (HR.out _)).mono ?_
    rintro e w9 ⟨rfl,hb9⟩;go_simp;refine hK.out _ _ (az hSw hb9) ?_;clear hSw hK K;intro hSw;go_simp;refine w_v 5 hSw ?_ (k:=kz36);go_simp;refine wpAnyH_done (by kernel_rfl) ?_ _;have hmeet:=hSw;clear hSw HST HEQ HR HRD HI4 HM2 HM3 HK HU HL HE HTL HXL;go_wp2_with fail
    go_meet
    exact⟨rfl,hmeet⟩
 case rest=>
  obtain⟨rfl,hbc⟩:=hcut;clear HST HEQ HRD HR;have hI5:=HI4.out.below hbc;have HQ3:=H_ (xx4 hI5 HM2.out.1 (a+5) F (by have:=HU.out;omega) (by have:=HU.out;omega) HM2.out.2.2);clear hI5 hbc HI4;go_wp2_with fail
  with_reducible refine HQ3.out.mono ?_
  rintro e w6 ⟨A6,n6,c6,X6,Y6,rfl,hI6⟩;obtain⟨y0,y1,y2,y3,y4⟩:=hI6.cx HTL.out;have hz:=hI6.one (Gn.t a) #[.int .i64 4,.int .i64 1,.int .u64 0,.int .u64 (a:Int),.int .i64 0] rfl;have HQ4:=H_ (yq2 hz.1 HM3.out.1 (a+5) F (by have:=HU.out;omega) (by have:=HU.out;omega) HOX.out.2 yj4 HM3.out.2.1 _ hz.2.1);clear hz hI6 HQ3 HM2;go_wp2_with fail
  with_reducible refine HQ4.out.mono ?_
  rintro e w7 ⟨A7,n7,c7,X7,Y7,rfl,hI7⟩;have HQ5:=H_ (dq5 hI7 HM3.out.1 (a+5) F (by have:=HU.out;omega) (by have:=HU.out;omega) HM3.out.2.2);clear hI7 HQ4 y0 y1 y2 y3 y4;go_wp2_with fail
  with_reducible refine HQ5.out.mono ?_
  rintro e w8 ⟨A8,n8,c8,X8,Y8,rfl,hI8⟩;have HA8:Hid (GnAt w w8 nb L S5 S6 V5 mg 0):=H_ ⟨X8,S5,Y8,V5,hI8,.inl ⟨by omega,rfl,rfl⟩⟩;clear hI8 HQ5 HM3;have hmg1:=HL.out.2.2;obtain⟨M,hM⟩:=n_ (max mg 1);have hmax:max (mg:Int) 1=(M:Int):=by omega
  have HM:Hid (M=max mg 1∧mg≤15):=H_ (by omega);clear hM hmg1 HL;go_wp2_with fail
  go_loopw [15] (fun i wr=>∃k:Nat,k≤mg+1∧i=.int .u64 (k:Int)∧Hid (GnAt w wr nb L S5 S6 V5 mg k)) (fun i _=>mg+1 - (intOf i).toNat)
  case atStart=>exact⟨0,t_ _,rfl,HA8⟩
  case round=>
   clear HA8;obtain⟨k,hk,rfl,HI⟩:=hrel
   by_cases hle:k≤mg
   ·have e1:((k:Int)≤(mg:Int))=True:=eq_true (by omega)
    obtain⟨m1,hm1⟩:=n_ (k+1);have hk1:(k:Int)+1=(m1:Int):=by omega
    have hwm:IntKind.u64.wrap (m1:Int)=(m1:Int):=aY_ _ (by have:=HM.out;omega);have HM1:=H_ (d_ hm1 (d_ hk hle));have HTK:=fun w' (hb:GnAt w w' nb L S5 S6 V5 mg k)=>lk3 HK.out hb HE.out.base (by have:=HM.out;omega) HM.out.2;rw[←hm1]at HTK;have HTK:=H_ HTK;clear hm1 hk hle
    by_cases hkM:k < M
    ·have e2:((M:Int)≤(k:Int))=False:=eq_false (by omega)
     have HSL:=H_ (zw3 HK.out HI.out 1 (by rw[←HM.out.1,if_pos hkM]));clear hkM;go_wp2_with fail
     with_reducible refine HSL.out.mono ?_
     rintro e w9 ⟨A9,c9,rfl,hb9,hg9⟩;have HT9:=H_ (HTK.out _ hg9);clear hb9 hg9 HSL;go_wp2_with fail
     with_reducible refine HT9.out.mono ?_
     rintro e w10 ⟨rfl,hg10⟩;have HZ:=H_ hg10;clear hg10 HT9;go_wp2;go_roundw
     case rel=>exact⟨m1,by have:=HM1.out;omega,by rw[←hk1],HZ⟩
     case measure=>have:=HM1.out;simp[intOf];omega
    ·have e2:((M:Int)≤(k:Int))=True:=eq_true (by omega)
     have HSL:=H_ (zw3 HK.out HI.out 0 (by rw[←HM.out.1,if_neg hkM]));clear hkM;go_wp2_with fail
     with_reducible refine HSL.out.mono ?_
     rintro e w9 ⟨A9,c9,rfl,hb9,hg9⟩;have HT9:=H_ (HTK.out _ hg9);clear hb9 hg9 HSL;go_wp2_with fail
     with_reducible refine HT9.out.mono ?_
     rintro e w10 ⟨rfl,hg10⟩;have HZ:=H_ hg10;clear hg10 HT9;go_wp2;go_roundw
     case rel=>exact⟨m1,by have:=HM1.out;omega,by rw[←hk1],HZ⟩
     case measure=>have:=HM1.out;simp[intOf];omega
   ·have e1:((k:Int)≤(mg:Int))=False:=eq_false (by omega)
    have HT9:=H_ (lk3 HK.out HI.out HE.out.base (by have:=HM.out;omega) HM.out.2);have HKG:Hid (M≤k+1∧k≤16):=H_ (by have:=HM.out;omega);clear hle hk HI;go_wp2_with fail
    with_reducible refine HT9.out.mono ?_
    rintro e w9 ⟨rfl,hg9⟩;obtain⟨X9,S9,Y9,V9,hI9,hz9⟩:=hg9;obtain⟨_,rfl,rfl⟩:=hz9.resolve_left (fun q=>by have:=HKG.out;have:=HM.out;omega);have HSL:=H_ (mq3 hI9 0 rfl (by omega));have HI9:=H_ hI9;clear hI9 hz9 HT9 hmax;go_wp2_with fail
    with_reducible refine HSL.out.mono ?_
    rintro e w10 ⟨A10,c10,rfl,_,hb10⟩;have hI10:=HI9.out.below hb10;have hme:=bz4 hI10.nd.at_ (by have:=HK.out.b.nrm.files;omega);rw[show St.oz (Gn.Vp V5)=⟨F,F,0,0⟩ by rw[HU.out.2.2.2.1];show (⟨V5.M.v.floor,V5.M.v.cert,V5.M.v.at_,V5.M.v.lease⟩:Mt)=_;rw[HK.out.v5];rfl]at hme;unfold Mt.val at hme;simp only at hme;have HME:=H_ hme;have HI10:=H_ hI10;clear hme hI10 hb10 HSL HI9;go_wp2_with fail
    with_reducible refine HME.out.mono ?_
    rintro e w11 ⟨rfl,hb11⟩;have hI11:=HI10.out.below hb11;obtain⟨x0,x1,x2,x3,x4⟩:=hI11.cx HXL.out;obtain⟨y0,y1,y2,y3,y4⟩:=hI11.cx HTL.out;have HI11:=H_ hI11;obtain⟨f2,hf2⟩:=n_ (F - 2);have hfs:(F:Int) - 2=(f2:Int):=by have:=HU.out;omega
    have hwf:IntKind.u64.wrap (f2:Int)=(f2:Int):=aY_ _ (by have:=HU.out;omega);have HF2:Hid (f2≤200000∧F≤200000):=H_ (by have:=HU.out;omega);have hfd:∀(x1 x2 x3 x4:Int) W',(Instr.field 47 (.agg #[.int .u64 x1,.int .u64 x2,.int .u64 x3,.int .u64 x4]) 1).run Tryz.prog W'=.ok (.int .u64 x2) W':=fun _ _ _ _ _=>rfl;clear hf2 hI11 hb11 HME HI10;have hJ1:=HI11.out.add #[.int .i64 4,.int .i64 2,.int .u64 9,.int .u64 (u:Int),.int .i64 1] 36;obtain⟨p0,p1,p2,p3,p4⟩:=hJ1.cx (.tail _ HXL.out);have hJ2:=hJ1.add #[.int .i64 4,.int .i64 2,.int .u64 9,.int .u64 (u:Int),.int .i64 1] 36;obtain⟨q0,q1,q2,q3,q4⟩:=hJ2.cx (.tail _ (.tail _ HXL.out));have hJ3:=hJ2.add #[.int .i64 4,.int .i64 2,.int .u64 9,.int .u64 (u:Int),.int .i64 1] 36;obtain⟨r0,r1,r2,r3,r4⟩:=hJ3.cx (.tail _ (.tail _ (.tail _ HTL.out)));have HJ:=H_ (hJ3.add #[.int .i64 4,.int .i64 1,.int .u64 0,.int .u64 (a:Int),.int .i64 0] 36);clear hJ1 hJ2 hJ3;go_upto_region 31 with (fail)
    obtain⟨b0,hb0⟩:=n_ w11.heap.size;obtain⟨b1,hb1⟩:=n_ (b0+1);obtain⟨b2,hb2⟩:=n_ (b1+1);obtain⟨b3,hb3⟩:=n_ (b2+1);obtain⟨b4,hb4⟩:=n_ (b3+1);rw[←hb0,←hb1,←hb2,←hb3,←hb4];have hJ:=HJ.out.add #[.int .i64 1,.int .i64 1,.int .i64 0,.int .u64 9,.int .u64 0,.slice (some ⟨b0,0,none⟩) 1 1,.int .i64 8,.int .i64 1,.int .i64 0,.int .u64 3,.int .u64 (F:Int),.slice (some ⟨b1,0,none⟩) 1 1,.int .i64 8,.int .i64 1,.int .i64 0,.int .u64 3,.int .u64 (f2:Int),.slice (some ⟨b2,0,none⟩) 1 1,.int .i64 1,.int .i64 1,.int .i64 0,.int .u64 2,.int .u64 0,.slice (some ⟨b3,0,none⟩) 1 1] 33;simp only[jq5,←hb0,←hb1,←hb2,←hb3,←hb4]at hJ;obtain⟨W2,hW2⟩:=n_ (((((w11.alloc (.cells #[.int .i64 4,.int .i64 2,.int .u64 9,.int .u64 (u:Int),.int .i64 1] 36)).alloc (.cells #[.int .i64 4,.int .i64 2,.int .u64 9,.int .u64 (u:Int),.int .i64 1] 36)).alloc (.cells #[.int .i64 4,.int .i64 2,.int .u64 9,.int .u64 (u:Int),.int .i64 1] 36)).alloc (.cells #[.int .i64 4,.int .i64 1,.int .u64 0,.int .u64 (a:Int),.int .i64 0] 36)).alloc (.cells #[.int .i64 1,.int .i64 1,.int .i64 0,.int .u64 9,.int .u64 0,.slice (some ⟨b0,0,none⟩) 1 1,.int .i64 8,.int .i64 1,.int .i64 0,.int .u64 3,.int .u64 (F:Int),.slice (some ⟨b1,0,none⟩) 1 1,.int .i64 8,.int .i64 1,.int .i64 0,.int .u64 3,.int .u64 (f2:Int),.slice (some ⟨b2,0,none⟩) 1 1,.int .i64 1,.int .i64 1,.int .i64 0,.int .u64 2,.int .u64 0,.slice (some ⟨b3,0,none⟩) 1 1] 33));rw[←hW2]at hJ ⊢;obtain⟨L2,hL2,hp0,hp1,hp2,hp3,hp4⟩:∃L2,GnI w W2 nb L2 X9 S9 Y9 (Gn.Vp V5) (k+1) mg∧(b0,36,(Gn.x u).cells)∈L2∧(b1,36,(Gn.x u).cells)∈L2∧(b2,36,(Gn.x u).cells)∈L2∧(b3,36,(Gn.t a).cells)∈L2∧(b4,33,#[.int .i64 1,.int .i64 1,.int .i64 0,.int .u64 9,.int .u64 0,.slice (some ⟨b0,0,none⟩) 1 1,.int .i64 8,.int .i64 1,.int .i64 0,.int .u64 3,.int .u64 (F:Int),.slice (some ⟨b1,0,none⟩) 1 1,.int .i64 8,.int .i64 1,.int .i64 0,.int .u64 3,.int .u64 (f2:Int),.slice (some ⟨b2,0,none⟩) 1 1,.int .i64 1,.int .i64 1,.int .i64 0,.int .u64 2,.int .u64 0,.slice (some ⟨b3,0,none⟩) 1 1].toList)∈L2:=⟨_,hJ,.tail _ (.tail _ (.tail _ (.tail _ (.head _)))),.tail _ (.tail _ (.tail _ (.head _))),.tail _ (.tail _ (.head _)),.tail _ (.head _),.head _⟩;have HP0:=H_ hp0;have HP1:=H_ hp1;have HP2:=H_ hp2;have HP3:=H_ hp3;have HP4:=H_ hp4;have HI12:Hid (∃X Y,GnI w W2 nb L2 X S9 Y (Gn.Vp V5) (k+1) mg):=H_ ⟨_,_,hL2⟩;clear hL2 hp0 hp1 hp2 hp3 hp4 hJ hW2 HJ hb0 hb1 hb2 hb3 hb4 p0 p1 p2 p3 p4 q0 q1 q2 q3 q4 r0 r1 r2 r3 r4 x0 x1 x2 x3 x4 y0 y1 y2 y3 y4 HI11 hfd hfs hwf;go_wp2_with fail
    go_loopw [18] (fun i wr=>∃j:Nat,j≤4∧i=.int .i64 (j:Int)∧Hid (∃X Y,GnI w wr nb L2 X S9 Y (Gn.Vp V5) (k+1) mg)) (fun i _=>4 - (intOf i).toNat)
    case atStart=>exact⟨0,t_ _,rfl,HI12⟩
    case round=>
     clear HI12
     rename World=>wr
     obtain⟨j,hj,rfl,HI⟩:=hrel;obtain⟨X12,Y12,hI⟩:=HI.out;have HI:=H_ hI;clear hI
     by_cases hj4:j < 4
     ·have e2:((j:Int) < (4:Int))=True:=eq_true (by omega)
      obtain⟨m1,hm1⟩:=n_ (j+1);have hk1:(j:Int)+1=(m1:Int):=by omega
      have hwm:IntKind.i64.wrap (m1:Int)=(m1:Int):=F_ _ (by omega);have HM1:=H_ (d_ hm1 hj4);obtain⟨htm',htm1⟩:=HTM.out;obtain⟨s,hs⟩:=n_ (j+tm);have hs1:(j:Int)+(tm:Int)=(s:Int):=by omega
      have hws:IntKind.i64.wrap (s:Int)=(s:Int):=F_ _ (by omega);obtain⟨q,hq,hq4⟩:=fk3 (s:Int) 2 (by omega);have HA:=H_ (HI.out.own _ HP4.out).1;clear hm1 hj hj4 hs htm1
      rcases (show q=0∨q=1∨q=2∨q=3 by omega) with rfl|rfl|rfl|rfl
      ·have hq:bits .and .i64 (s:Int) 3=0:=hq
       have c0:wr.cell? ⟨b4,0,none⟩=some (.int .i64 1):=HA.out.cell 0;have c1:wr.cell? ⟨b4,1,none⟩=some (.int .i64 1):=HA.out.cell 1;have c2:wr.cell? ⟨b4,2,none⟩=some (.int .i64 0):=HA.out.cell 2;have c3:wr.cell? ⟨b4,3,none⟩=some (.int .u64 9):=HA.out.cell 3;have c4:wr.cell? ⟨b4,4,none⟩=some (.int .u64 0):=HA.out.cell 4;have c5:wr.cell? ⟨b4,5,none⟩=some (.slice (some ⟨b0,0,none⟩) 1 1):=HA.out.cell 5;have hz:=HI.out.old HP0.out;have HQ:=H_ (jj3 HI.out HK.out.b 9 9 rfl (by omega) HOX.out.1 mv4 (yz3 HK.out HU.out.1.2) _ hz.1 hz.2);clear hz HA;go_wp2_with fail
       with_reducible refine HQ.out.mono ?_
       rintro e w13 ⟨A13,n13,c13,X13,Y13,rfl,h13⟩;have HZ:=H_ h13;clear h13 HQ c0 c1 c2 c3 c4 c5;go_wp2;go_roundw
       case rel=>exact⟨m1,by have:=HM1.out;omega,by rw[←hk1],H_ ⟨X13,Y13,HZ.out⟩⟩
       case measure=>have:=HM1.out;simp[intOf];omega
      ·have hq:bits .and .i64 (s:Int) 3=1:=hq
       have c0:wr.cell? ⟨b4,6,none⟩=some (.int .i64 8):=HA.out.cell 6;have c1:wr.cell? ⟨b4,7,none⟩=some (.int .i64 1):=HA.out.cell 7;have c2:wr.cell? ⟨b4,8,none⟩=some (.int .i64 0):=HA.out.cell 8;have c3:wr.cell? ⟨b4,9,none⟩=some (.int .u64 3):=HA.out.cell 9;have c4:wr.cell? ⟨b4,10,none⟩=some (.int .u64 (F:Int)):=HA.out.cell 10;have c5:wr.cell? ⟨b4,11,none⟩=some (.slice (some ⟨b1,0,none⟩) 1 1):=HA.out.cell 11;have hz:=HI.out.old HP1.out;have HQ:=H_ (yq2 HI.out HK.out.b F F rfl HF2.out.2 HOX.out.1 mv4 (gq3 HK.out) _ hz.1);clear hz HA;go_wp2_with fail
       with_reducible refine HQ.out.mono ?_
       rintro e w13 ⟨A13,n13,c13,X13,Y13,rfl,h13⟩;have HZ:=H_ h13;clear h13 HQ c0 c1 c2 c3 c4 c5;go_wp2;go_roundw
       case rel=>exact⟨m1,by have:=HM1.out;omega,by rw[←hk1],H_ ⟨X13,Y13,HZ.out⟩⟩
       case measure=>have:=HM1.out;simp[intOf];omega
      ·have hq:bits .and .i64 (s:Int) 3=2:=hq
       have c0:wr.cell? ⟨b4,12,none⟩=some (.int .i64 8):=HA.out.cell 12;have c1:wr.cell? ⟨b4,13,none⟩=some (.int .i64 1):=HA.out.cell 13;have c2:wr.cell? ⟨b4,14,none⟩=some (.int .i64 0):=HA.out.cell 14;have c3:wr.cell? ⟨b4,15,none⟩=some (.int .u64 3):=HA.out.cell 15;have c4:wr.cell? ⟨b4,16,none⟩=some (.int .u64 (f2:Int)):=HA.out.cell 16;have c5:wr.cell? ⟨b4,17,none⟩=some (.slice (some ⟨b2,0,none⟩) 1 1):=HA.out.cell 17;have hz:=HI.out.old HP2.out;have HQ:=H_ (yq2 HI.out HK.out.b f2 f2 rfl HF2.out.1 HOX.out.1 mv4 (gq3 HK.out) _ hz.1);clear hz HA;go_wp2_with fail
       with_reducible refine HQ.out.mono ?_
       rintro e w13 ⟨A13,n13,c13,X13,Y13,rfl,h13⟩;have HZ:=H_ h13;clear h13 HQ c0 c1 c2 c3 c4 c5;go_wp2;go_roundw
       case rel=>exact⟨m1,by have:=HM1.out;omega,by rw[←hk1],H_ ⟨X13,Y13,HZ.out⟩⟩
       case measure=>have:=HM1.out;simp[intOf];omega
      ·have hq:bits .and .i64 (s:Int) 3=3:=hq
       have c0:wr.cell? ⟨b4,18,none⟩=some (.int .i64 1):=HA.out.cell 18;have c1:wr.cell? ⟨b4,19,none⟩=some (.int .i64 1):=HA.out.cell 19;have c2:wr.cell? ⟨b4,20,none⟩=some (.int .i64 0):=HA.out.cell 20;have c3:wr.cell? ⟨b4,21,none⟩=some (.int .u64 2):=HA.out.cell 21;have c4:wr.cell? ⟨b4,22,none⟩=some (.int .u64 0):=HA.out.cell 22;have c5:wr.cell? ⟨b4,23,none⟩=some (.slice (some ⟨b3,0,none⟩) 1 1):=HA.out.cell 23;have hz:=HI.out.old HP3.out;have HQ:=H_ (jj3 HI.out HK.out.b 2 2 rfl (by omega) HOX.out.2 yj4 (yz3 HK.out l_) _ hz.1 hz.2);clear hz HA;go_wp2_with fail
       with_reducible refine HQ.out.mono ?_
       rintro e w13 ⟨A13,n13,c13,X13,Y13,rfl,h13⟩;have HZ:=H_ h13;clear h13 HQ c0 c1 c2 c3 c4 c5;go_wp2;go_roundw
       case rel=>exact⟨m1,by have:=HM1.out;omega,by rw[←hk1],H_ ⟨X13,Y13,HZ.out⟩⟩
       case measure=>have:=HM1.out;simp[intOf];omega
     ·have e2:((j:Int) < (4:Int))=False:=eq_false (by omega)
      have HSL:=H_ (mq3 HI.out 0 rfl (by omega));clear hj hj4 HTM;go_wp2_with fail
      with_reducible refine HSL.out.mono ?_
      rintro e w13 ⟨A13,c13,rfl,_,hb13⟩;have hb:=az HI.out.nd.bel hb13;have HAW:=H_ (bz5 (HE.out.below hb));have HB:=H_ hb;clear hb hb13 HSL;go_wp2_with fail
      with_reducible refine HAW.out.mono ?_
      rintro e w14 ⟨rfl,hb14⟩;have HZ:=H_ (az HB.out hb14);clear hb14 HAW HB;go_wp2;go_ret;exact⟨rfl,HZ.out⟩
end Go.Proofs.YthjdpplgfdihoaaGreatDoor
