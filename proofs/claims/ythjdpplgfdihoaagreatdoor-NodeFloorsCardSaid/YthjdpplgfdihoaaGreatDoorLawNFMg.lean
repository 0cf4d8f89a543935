/- The walk of NodeFloors. -/
import Derived.Test.YthjdpplgfdihoaaGreatDoorBunAA
import Derived.Test.YthjdpplgfdihoaaGreatDoorBunAR
import Derived.Test.YthjdpplgfdihoaaGreatDoorBunAV
import Derived.Test.YthjdpplgfdihoaaGreatDoorBunAS
import Derived.Test.YthjdpplgfdihoaaGreatDoorBunAI
set_option linter.unusedSimpArgs false
set_option linter.unusedVariables false
namespace Go.Proofs.YthjdpplgfdihoaaGreatDoor
open Go Go.RowKit Go.Lib Go.Shelf
variable {w w0 w1 w2:World} {X X1 X2:Dw} {S S1 S2:Sd} {Y Y1 Y2:Yw} {V V1 V2:Sv} {nb now grace:Nat} {ni:Int}
theorem bj3 {q:Int} {c d:Nat} {bs:List (List It)} {ts:List Ed} (h:Dm w X S) (hs:Nd.NS q S V c d) (ho:Nd.NO S V bs ts) (hc:c≤70000) (hl:ts.length≤30) (hat:V.M.v.at_≤1099511627776) (ni:Int) (grace:Nat) (hni:0≤ni∧ni < 7) (hgr:grace≤1099511627776):
  Calls Tryz.prog 14 #[.int .i64 ni,.pointer (some ⟨X.d,0,none⟩),.int .u64 (grace:Int)] w (dx3 X w S (St.old V.M (Lg.text bs).length bs) ni grace):=by
 have h1:=Nd.kz2 bs;obtain⟨t,ht,hct⟩:=hs.log;have e:t=Lg.text bs:=by
  have:=ho.log;rw[ht]at this;exact Option.some.inj this
 subst e;have hop:=cj4 h hs.calm.dead (ho.dz5 hs) V.M (ho.look hs hl) hs.files (by rw[ho.lg];omega) (by rw[hs.name];decide+kernel) (Lg.text bs) bs (by
  rw[ho.lg,show Mn.name Mn.kLog 1=St.jk by decide+kernel];exact hs.calm.read (s:=St.jk) (by decide+kernel) ho.log) (Lg.yk2 bs ho.bat) (fun l hl=>⟨(ho.bat l hl).1,List.all_eq_true.2 fun x hx=>((ho.bat l hl).2.2 x hx).1⟩) (by omega) (by omega) (by have:=ho.load;omega)
 rw[Nd.gv3 V.M _ _ (ho.own hs)]at hop;exact fy3 S _ hop (by show V.M.v.files.length≤_;rw[hs.files];exact Nat.zero_le _) hat ni grace hni hgr
theorem yx2 (f:Nat) (hf:f < 18446744073709551616) (k:Nat) (hk:k < 64):∃m:Nat,bits .and .u64 (f:Int) ((2 ^ k - 1:Nat):Int)=(m:Int)∧m < 2 ^ k:=by
 obtain⟨m,h1,h2,_⟩:=mq3 (BitVec.ofNat 64 f) k hk;rw[BitVec.toNat_ofNat,Nat.mod_eq_of_lt hf]at h1;exact⟨m,h1,h2⟩
theorem qj3 {q:Int} (h1:500000≤q) (h2:q≤1099511627776) (he:Env w) (hd:DK w1 X (Sd.new q)) (hb:Below w.heap.size w w1) (hf:∀g∈X.foot,w.heap.size≤g) (ni:Int) (grace:Nat) (hni:0≤ni∧ni < 7) (hgr:grace≤1099511627776):
  Calls Tryz.prog 14 #[.int .i64 ni,.pointer (some ⟨X.d,0,none⟩),.int .u64 (grace:Int)] w1 fun e w'=>∃nb X' Y S',e=.returned (.tuple #[.pointer (some ⟨nb,0,none⟩),.int .i64 0])∧X'.d=X.d∧NdW w w' X' S' Y Nd.v0 nb ni 0 grace∧Nd.NS q S' Nd.v0 0 100∧Nd.NO S' Nd.v0 [] [St.first.v.whole]:=by
 obtain⟨S',hcr,hns⟩:=Nd.born q h1 h2;refine(tk2 (av5 h2 he hd hb hf) rfl (by rw[show (Sd.new q).list=[] by simp[Sd.list,Sd.new]];intro s hs;cases hs) (by show 0≤_;omega) S' Nd.v0 hcr (by decide) (by decide) ni grace hni hgr).mono ?_;rintro e w' ⟨nb,X',Y,rfl,e1,h3,c,f,hnb⟩;have hlow:∀g∈XY X' Y,w.heap.size≤g:=fun g hg=>by
  rcases f g hg with z|z
  ·exact hf g z
  ·exact Nat.le_trans hb.size z
 exact⟨nb,X',Y,S',rfl,e1,⟨h3,hlow,hb.trans (c.below hb.size hf)⟩,hns,Nd.NO.born h1 h2 hcr⟩
structure NfI (w0 w:World) (nb:Nat) (F:Nat) (X:Dw) (S:Sd) (Y:Yw) (V:Sv):Prop where
 nd:NdW w0 w X S Y V nb 0 0 3
 ns:Nd.NS 1048576 S V 0 2112
 st:V.st=[]
 fl:V.M.v.floor=F
 ce:V.M.v.cert=0
 aa:V.M.v.at_=0
theorem ux4 {F:Nat} (h:Nd.NS 1048576 S Nd.v0 0 100) (ho:Nd.NO S Nd.v0 [] [St.first.v.whole]) (hF:10≤F∧F≤70000):
  ∃S1 V1 ts,St.seal S Nd.v0 F=(S1,V1,some (7,F,[]))∧Nd.NS 1048576 S1 V1 0 2112∧Nd.NO S1 V1 [] ts∧ts.length=2∧V1.st=[]∧V1.M.v.floor=F∧V1.M.v.cert=0∧V1.M.v.at_=0:=by
 obtain⟨S2,V2,h3,h4,h5,h6⟩:=h.raise (by omega) (by omega) (f:=F) (by omega) (by omega);have hno:=ho.setm h (by omega) (by omega) (m:={ St.yx Nd.v0 with floor:=F }) ⟨⟨by show F≤_;omega,fun e=>rfl⟩,⟨Nat.zero_le _,fun _=>rfl⟩,⟨Nat.zero_le _,fun _=>rfl⟩,⟨Nat.zero_le _,fun _=>rfl⟩⟩ h3;refine⟨S2,V2,_,?_,h4,hno,rfl,h5,by rw[h6],by rw[h6];rfl,by rw[h6];rfl⟩;unfold St.seal;rw[if_neg (by show ¬F < 0;omega),if_neg (by show ¬F=0;omega),h3,if_pos rfl];rfl
def nfY (t v:Nat) (x:Int):It:=⟨4,2,t,v,x⟩
theorem ik4 {t v:Nat} {x:Int} (ht:t≤400) (hv:1≤v∧v≤100000):(nfY t v x).ok=true:=by
 unfold It.ok nfY;simp;omega
theorem tj4 {t v:Nat} {x:Int} (h:(nfY t v x).ok=true):joins [] [nfY t v x]=[nfY t v x]:=by
 have h1:hidden [] (nfY t v x)=false:=rfl;have h2:jq1 [] (nfY t v x)=false:=rfl;show add [] _=_
 unfold add;rw[h,h1,h2];simp[put,It.hides,nfY]
theorem ww4 {t v u:Nat} {x:Int} (h:(nfY t v x).ok=true):joins [nfY (t+1) u x] [nfY t v x]=[nfY t v x,nfY (t+1) u x]:=by
 have h1:hidden [nfY (t+1) u x] (nfY t v x)=false:=rfl;have l1:It.less (nfY (t+1) u x) (nfY t v x)=false:=by rw[It.jv1];simp[nfY]
 have l2:It.less (nfY t v x) (nfY (t+1) u x)=true:=by rw[It.xy];simp[nfY]
 have h2:jq1 [nfY (t+1) u x] (nfY t v x)=false:=by simp[jq1,It.same,l1,l2]
 show add _ _=_
 unfold add;have l3:It.hides (nfY t v x) (nfY t v x)=false:=rfl;have l4:It.hides (nfY t v x) (nfY (t+1) u x)=false:=rfl;rw[h,h1,h2];simp[put,l1,l2,l3,l4]
theorem xy4 {F t v:Nat} {x:Int} (h:NfI w0 w nb F X S Y V) (hF:10≤F∧F≤70000) (ht:t≤300) (hv:1≤v∧v≤F):
  St.put S V [nfY t v x]=(S,V,some (3,F,[]))∧∃S1 V1,St.put S V [nfY (t+1) (F+1) x]=(S1,V1,some (2,0,[]))∧Nrm V1∧V1.st=[nfY (t+1) (F+1) x]∧St.fill S1 V1 (F - 1) [nfY t v x]=(S1,V1,false)∧
   ∃S2 V2,St.fill S1 V1 F [nfY t v x]=(S2,V2,true)∧V2.st=[nfY t v x,nfY (t+1) (F+1) x]∧V2.st.length=2:=by
 have oy:(nfY t v x).ok=true:=ik4 (by omega) (by omega);have oz:(nfY (t+1) (F+1) x).ok=true:=ik4 (by omega) (by omega);have hj:joins V.st [nfY (t+1) (F+1) x]=[nfY (t+1) (F+1) x]:=by rw[h.st];exact tj4 oz
 obtain⟨S1,V1,p1,p2,p3,p4⟩:=h.ns.put (l:=[nfY (t+1) (F+1) x]) (by omega) (by omega) (by simp[oz]) (by simp) (by rw[hj];simp) (fun y hy=>by rw[List.mem_singleton.1 hy,h.fl];exact Nat.lt_succ_self F);rw[hj]at p3;have hj2:joins V1.st [nfY t v x]=[nfY t v x,nfY (t+1) (F+1) x]:=by rw[p3];exact ww4 oy
 have hup:upto [nfY t v x] F=[nfY t v x]:=by
  have:(nfY t v x).v=v:=rfl;simp[upto,this,hv.2]
 obtain⟨S2,V2,q1,q2,q3,q4⟩:=p2.last (l:=[nfY t v x]) (by omega) (by simp) (by simp[oy]) (by simp) (by rw[hj2];simp);rw[hj2]at q3;refine⟨?_,S1,V1,p1,p2.nrm (by simp) (by omega) (by rw[p3];simp),p3,?_,S2,V2,?_,q3,by rw[q3];rfl⟩
 ·unfold St.put
  rw[if_pos (by
   rw[h.fl];have:(nfY t v x).v=v:=rfl;simp[this,hv.2]),h.fl]
 ·unfold St.fill Mt.fills
  have e1:(St.yx V1).floor=F:=by simp[St.yx,p4,h.fl]
  rw[e1,p4,h.ce,if_neg (by simp;omega)];simp;omega
 ·unfold St.fill Mt.fills
  have e1:(St.yx V1).floor=F:=by simp[St.yx,p4,h.fl]
  have e2:(St.yx V1).cert=0:=by simp[St.yx,p4,h.ce]
  rw[e1,e2,if_pos (by simp;omega),hup,q1]
structure NfB (b:Nat) (y z:It) (w:World) (X:Dw) (Y:Yw):Prop where
 y_:BoxO w 36 b y.cells
 z_:BoxO w 36 (b+1) z.cells
 away:∀g∈XY X Y,g < b∨b+2≤g
theorem NfB.below {b:Nat} {y z:It} (h:NfB b y z w X Y) (hb:Below w.heap.size w w1):NfB b y z w1 X Y:=⟨h.y_.below hb,h.z_.below hb,h.away⟩
theorem NfB.turn {b:Nat} {y z:It} (h:NfB b y z w X Y) (c:Chg (XY X Y) w w1) (f:∀g∈XY X1 Y1,g∈XY X Y∨w.heap.size≤g):NfB b y z w1 X1 Y1:=
 ⟨h.y_.chg c (fun hm=>by have:=h.away _ hm;omega),h.z_.chg c (fun hm=>by have:=h.away _ hm;omega),fun g hg=>(f g hg).elim (h.away g) (fun q=>by have:=h.z_.lt;omega)⟩
set_option maxRecDepth 100000 in
set_option maxHeartbeats 16000000 in
theorem zx1 (f low time:Nat) (value:Int) (xk:Bool) (hf:f < 18446744073709551616) (hl:low < 18446744073709551616) (ht:time < 18446744073709551616) (hv:-9223372036854775808≤value∧value≤9223372036854775807) (he:Env w):
  Calls Tryz.prog 3 #[.int .u64 (f:Int),.int .u64 (low:Int),.int .u64 (time:Int),.int .i64 value,.bool xk] w fun e w'=>e=.returned (.bool true)∧Below w.heap.size w w':=by
 obtain⟨mf,hmf,hmf1⟩:=yx2 f hf 16 (by omega);have hmf':bits .and .u64 (f:Int) 65535=(mf:Int):=hmf;obtain⟨ml,hml,hml1⟩:=yx2 low hl 16 (by omega);have hml':bits .and .u64 (low:Int) 65535=(ml:Int):=hml;obtain⟨mt,hmt,hmt1⟩:=yx2 time ht 8 (by omega);have hmt':bits .and .u64 (time:Int) 255=(mt:Int):=hmt;clear hmf hml hmt;have HDN:=Lib.hid (fq3 1048576 w);have HE:=Lib.hid he;have HM:=Lib.hid (And.intro (And.intro hml' hml1) (And.intro hmt' hmt1));clear he hml' hml1 hmt' hmt1 hl ht;go_enter Tryz.func3,Tryz.ntmps3;go_wp2_with fail
 with_reducible refine HDN.out.mono ?_
 rintro e w1 ⟨X0,rfl,hdk,hb1,hfo⟩;have hop:=qj3 (by omega) (by omega) HE.out hdk hb1 hfo 0 3 (by omega) (by omega);rw[show ((3:Nat):Int)=3 from rfl]at hop;have HOP:=Lib.hid hop;have HD1:=Lib.hid hdk;clear hop hdk hb1 hfo HDN;go_wp2_with fail
 with_reducible refine HOP.out.mono ?_
 rintro e w2 ⟨nb,X,Y,S,rfl,eX,hw,hns,hno⟩;obtain⟨F,hF⟩:∃F,F=mf+10:=⟨_,rfl⟩;have hF1:(mf:Int)+10=(F:Int):=by omega
 have HFB:Hid (10≤F∧F≤65546):=Lib.hid (by omega);have hwF:IntKind.u64.wrap (F:Int)=(F:Int):=IntWalk.u64_in _ (by have:=HFB.out;omega);obtain⟨S3,V3,ts,hsl,hns3,hno3,hts,hst3,hfl3,hce3,hat3⟩:=ux4 hns hno (F:=F) (by omega);have hse:=tv3 hw.at_ (hns.nrm (by omega) (by omega) (by simp[Nd.v0])) 1 1 F none 0 0 [] ⟨by simp,by simp,by simp,by simp,by simp only;omega,by simp,rfl,.inl rfl⟩ Row.nil_ (by omega) (by decide);rw[hsl]at hse;simp only at hse;rw[show ((1:Nat):Int)=1 from rfl]at hse;have HSE:=Lib.hid hse;have HW:=Lib.hid (And.intro hw eX);have HN3:=Lib.hid (And.intro hns3 (And.intro hno3 (And.intro hts (And.intro hst3 (And.intro hfl3 (And.intro hce3 hat3))))));clear hse hw hns hno hsl hns3 hno3 hts hst3 hfl3 hce3 hat3 HOP hF;go_wp2_with fail
 with_reducible refine HSE.out.mono ?_
 rintro e w3 ⟨X3,Y3,e3,es3,h3,c3,f3,_,ga,Ba,na,ca,rfl,ha,_⟩;have a0:=ha.cell 0;have a4:=ha.cell 4;simp only[gE0,gE1]at a0 a4;have HI3:Hid (NdW w w3 X3 S3 Y3 V3 nb 0 0 3∧X3.d=X0.d):=Lib.hid ⟨HW.out.1.turn h3 c3 f3,e3.trans HW.out.2⟩;clear ha h3 c3 f3 HSE HW hwF hF1 hmf' hmf1 e3;go_upto_if 60 with (fail)
 have hcr:=ck4 X3 S3 w3 none 0 0 [] HI3.out.1.at_.at_.dm.wf (by have:=HN3.out.2.1.load;omega) HI3.out.1.at_.at_.dm.dk Row.nil_ (Nat.le_refl _) (Nat.zero_le _) (fun j hj=>absurd hj (Nat.not_lt_zero _)) (fun u hu=>Nat.le_trans (HN3.out.2.1.in_.tb u hu) (by omega)) (by
  have h1:=HN3.out.2.1.most;have h2:S3.lasted.length≤S3.co.most:=by unfold Co.most;exact Nat.le_add_right _ _
  omega)
 rw[HI3.out.2]at hcr;have HCR:=Lib.hid hcr;clear hcr
 go_cut [4,12] from 15 (fun s4 s12 wr=>∃nb X S Y V,s12=.pointer (some ⟨nb,0,none⟩)∧Hid (NfI w wr nb F X S Y V))
 case first=>
  cases xk with
  |false=>
   go_wp2
   go_meet
   case rel=>exact⟨nb,X3,S3,Y3,V3,rfl,Lib.hid ⟨HI3.out.1,HN3.out.1,HN3.out.2.2.2.1,HN3.out.2.2.2.2.1,HN3.out.2.2.2.2.2.1,HN3.out.2.2.2.2.2.2⟩⟩
  |true=>
   clear a0 a4;go_wp2_with fail
   with_reducible refine HCR.out.mono ?_
   rintro e w4 ⟨rfl,hu⟩;have HU:=Lib.hid (HI3.out.1.at_.at_.dm.upd (Sd.gq3 HI3.out.1.at_.at_.dm.wf HN3.out.2.1.in_ (by have:=HN3.out.2.1.most;omega) []) hu);clear hu HCR;obtain⟨X4,e4,hd4,c4,f4⟩:=HU.out;have hre:=bj3 hd4 (HN3.out.1.xk HN3.out.2.1) (HN3.out.2.1.xk HN3.out.1.calm) (by omega) (by rw[HN3.out.2.2.1];omega) (by rw[HN3.out.2.2.2.2.2.2];omega) 0 3 (by omega) (by omega);rw[e4,HI3.out.2,show ((3:Nat):Int)=3 from rfl]at hre;have HRE:=Lib.hid hre;have H4:=Lib.hid (And.intro c4 f4);clear hre hd4 c4 f4 e4 HU;go_wp2_with fail
   with_reducible refine HRE.out.mono ?_
   rintro e w5 ⟨nb5,X5,Y5,rfl,e5,h5,c5,f5,_⟩;have hI:NfI w w5 nb5 F X5 (S3.xk []) Y5 (St.old V3.M (Lg.text []).length []):=by
    have hw:=HI3.out.1;have l4:∀x∈X4.foot,w.heap.size≤x:=fun x hx=>(H4.out.2 x hx).elim (fun z=>hw.low x (List.mem_append_left _ z)) (Nat.le_trans hw.bel.size);have b4:Below w.heap.size w w4:=hw.bel.trans (H4.out.1.below hw.bel.size (fun x hx=>hw.low x (List.mem_append_left _ hx)));have hrp:=(HN3.out.1.xk HN3.out.2.1).reopen (HN3.out.2.1.xk HN3.out.1.calm);have ha:=HN3.out.2.2.2.2.2.2;have hn:NdAt w5 X5 (S3.xk []) Y5 (St.old V3.M (Lg.text []).length []) nb5 0 0 3:=by
     rw[←ha];exact h5
    exact⟨⟨hn,fun x hx=>(f5 x hx).elim (l4 x) (Nat.le_trans b4.size),b4.trans (c5.below b4.size l4)⟩,hrp.1,rfl,HN3.out.2.2.2.2.1,HN3.out.2.2.2.2.2.1,ha⟩
   have HI:=Lib.hid hI;clear hI h5 c5 f5 HRE H4 e5;go_wp2
   go_meet
   case rel=>exact⟨nb5,_,_,_,_,rfl,HI⟩
 case rest=>
  clear HCR HI3 HN3 a0 a4 HD1;obtain⟨nb,X,S,Y,V,rfl,HI⟩:=hcut
  rename World=>wa
  obtain⟨p,hp⟩:∃p,p=ml % F:=⟨_,rfl⟩;have hrem:(ml:Int).tmod (F:Int)=(p:Int):=by rw[hp];rfl
  have hpl:p < F:=by rw[hp];exact Nat.mod_lt _ (by have:=HFB.out;omega)
  obtain⟨v,hv1⟩:∃v,v=p+1:=⟨_,rfl⟩;have hpv:(p:Int)+1=(v:Int):=by omega
  have hml:=HM.out.1.1;have hmt:=HM.out.2.1;have hmt2:=HM.out.2.2;have hFn:(F=0)=False:=eq_false (by have:=HFB.out;omega);have hF0:((F:Int)==0)=false:=by have:=HFB.out;simp;omega
  have hF00:((F:Int)=0)=False:=by have:=HFB.out;simp;omega
  have hwv:IntKind.u64.wrap (v:Int)=(v:Int):=IntWalk.u64_in _ (by have:=HFB.out;omega);have hwp:IntKind.u64.wrap (p:Int)=(p:Int):=IntWalk.u64_in _ (by have:=HFB.out;omega);have HV1:=Lib.hid (And.intro hv1 hpl);obtain⟨G,hG⟩:∃G,G=F+1:=⟨_,rfl⟩;have hFG:(F:Int)+1=(G:Int):=by omega
  have hwG:IntKind.u64.wrap (G:Int)=(G:Int):=IntWalk.u64_in _ (by have:=HFB.out;omega);obtain⟨m1,hm1⟩:∃m1,m1=mt+1:=⟨_,rfl⟩;have hmm:(mt:Int)+1=(m1:Int):=by omega
  have hwm:IntKind.u64.wrap (m1:Int)=(m1:Int):=IntWalk.u64_in _ (by omega);have HMS:=Lib.hid (xy4 (x:=value) HI.out (by have:=HFB.out;omega) (t:=mt) (v:=v) (by omega) (by omega));have HGM:=Lib.hid (And.intro hG (And.intro hm1 (show mt≤255∧1≤v∧v≤F by omega)));clear hp hv1 hpl hG hm1;go_upto_region 18 with (fail)
  have hby0:=BoxO.new wa #[.int .i64 4,.int .i64 2,.int .u64 (mt:Int),.int .u64 (v:Int),.int .i64 value] 36;have hbA:=(Below.refl wa.heap.size wa).alloc (Nat.le_refl _) (.cells #[.int .i64 4,.int .i64 2,.int .u64 (mt:Int),.int .u64 (v:Int),.int .i64 value] 36);have hby:=hby0.alloc (.cells #[.int .i64 4,.int .i64 2,.int .u64 (m1:Int),.int .u64 (G:Int),.int .i64 value] 36);have hbz:=BoxO.new (wa.alloc (.cells #[.int .i64 4,.int .i64 2,.int .u64 (mt:Int),.int .u64 (v:Int),.int .i64 value] 36)) #[.int .i64 4,.int .i64 2,.int .u64 (m1:Int),.int .u64 (G:Int),.int .i64 value] 36;have hbB:=hbA.alloc hbA.size (.cells #[.int .i64 4,.int .i64 2,.int .u64 (m1:Int),.int .u64 (G:Int),.int .i64 value] 36);rw[show (wa.alloc (.cells #[.int .i64 4,.int .i64 2,.int .u64 (mt:Int),.int .u64 (v:Int),.int .i64 value] 36)).heap.size=wa.heap.size+1 by simp]at hbz;obtain⟨W,hW⟩:∃W,W=(wa.alloc (.cells #[.int .i64 4,.int .i64 2,.int .u64 (mt:Int),.int .u64 (v:Int),.int .i64 value] 36)).alloc (.cells #[.int .i64 4,.int .i64 2,.int .u64 (m1:Int),.int .u64 (G:Int),.int .i64 value] 36):=⟨_,rfl⟩;rw[←hW]at hby hbz hbB ⊢;clear hby0 hbA hW hrem hpv hml hmt hwv hwp hFG hmm hwm hwG;have ho:∀V:World,Row (V.alloc (.cells #[.int .i64 4,.int .i64 2,.int .u64 (mt:Int),.int .u64 (v:Int),.int .i64 value] 36)).heap.size (V.alloc (.cells #[.int .i64 4,.int .i64 2,.int .u64 (mt:Int),.int .u64 (v:Int),.int .i64 value] 36)) (some ⟨V.heap.size,0,none⟩) 1 5 (itc [nfY mt v value]):=fun V:World=>(Row.new V #[.int .i64 4,.int .i64 2,.int .u64 (mt:Int),.int .u64 (v:Int),.int .i64 value] 36 (n:=1) (size:=5) rfl).up (by simp);have hoz:∀V:World,Row (V.alloc (.cells #[.int .i64 4,.int .i64 2,.int .u64 (m1:Int),.int .u64 (G:Int),.int .i64 value] 36)).heap.size (V.alloc (.cells #[.int .i64 4,.int .i64 2,.int .u64 (m1:Int),.int .u64 (G:Int),.int .i64 value] 36)) (some ⟨V.heap.size,0,none⟩) 1 5 (itc [nfY m1 G value]):=fun V:World=>(Row.new V #[.int .i64 4,.int .i64 2,.int .u64 (m1:Int),.int .u64 (G:Int),.int .i64 value] 36 (n:=1) (size:=5) rfl).up (by simp);obtain⟨hm1,hm2,S1,V1,hm3,hN1,hst1,hm4,S2,V2,hm5,hst2,hsl2⟩:_∧_∧_:=⟨HMS.out.1,HGM.out,HMS.out.2⟩;rw[←hm2.1,←hm2.2.1]at hm3 hst1 hst2;have HP:=Lib.hid (And.intro hm3 (And.intro hN1 (And.intro hst1 (And.intro hm4 (And.intro hm5 (And.intro hst2 hsl2))))));have HR:=Lib.hid (And.intro ho hoz);have hvl:1≤v∧v≤F:=hm2.2.2.2;have hok1:[nfY mt v value].all It.ok=true:=by
   have:=ik4 (t:=mt) (v:=v) (x:=value) (by have:=hm2.2.2.1;omega) (by have:=HFB.out;omega);simp[this]
  have hok2:[nfY m1 G value].all It.ok=true:=by
   have:=ik4 (t:=m1) (v:=G) (x:=value) (by have:=hm2.2.2.1;have:=hm2.2.1;omega) (by have:=HFB.out;have:=hm2.1;omega);simp[this]
  have hfit1:∀x∈[nfY mt v value],x.fit:=fun x hx=>by rw[List.mem_singleton.1 hx];exact⟨hv.1,by show value < _;omega⟩
  have hfit2:∀x∈[nfY m1 G value],x.fit:=fun x hx=>by rw[List.mem_singleton.1 hx];exact⟨hv.1,by show value < _;omega⟩
  have HB:=Lib.hid (And.intro hby (And.intro hbz hbB));have HOK:=Lib.hid (And.intro (And.intro hok1 hfit1) (And.intro hok2 hfit2));have y0:=hby.cell 0;have y1:=hby.cell 1;have y2:=hby.cell 2;have y3:=hby.cell 3;have y4:=hby.cell 4;simp only[gE0,gE1]at y0 y1 y2 y3 y4;have hIW:=HI.out.nd.below hbB;have hbW2:=(Below.refl W.heap.size W).alloc (Nat.le_refl _) (.cells #[.int .i64 4,.int .i64 2,.int .u64 (mt:Int),.int .u64 (v:Int),.int .i64 value] 36);have hIW2:=hIW.below hbW2;have hxw:=hIW.at_.at_.lt;have hp1:=jq3 hIW2.at_ (HI.out.ns.nrm (by omega) (by omega) (by rw[HI.out.st];simp)) 2 2 0 (some ⟨W.heap.size,0,none⟩) 1 1 [nfY mt v value] ⟨by simp,by simp,by simp,by simp,by simp,by simp,hok1,.inr (.inl rfl)⟩ (ho W) (by omega) (by omega) (fun a ha hm=>by
   injection ha with ha;subst ha;have:=hxw _ hm;simp only at this;omega) hfit1
  rw[hm1]at hp1;simp only at hp1;rw[show ((2:Nat):Int)=2 from rfl,show ((0:Nat):Int)=0 from rfl]at hp1;have HP1:=Lib.hid hp1;have H1:=Lib.hid (And.intro hIW2 hbW2);clear ho hoz hm1 hm2 hm3 hN1 hst1 hm4 hm5 hst2 hsl2 hok1 hok2 hfit1 hfit2 hIW hIW2 hxw hp1 hby hbz hbB hbW2;have hB1:NfB wa.heap.size (nfY mt v value) (nfY m1 G value) (W.alloc (.cells #[.int .i64 4,.int .i64 2,.int .u64 (mt:Int),.int .u64 (v:Int),.int .i64 value] 36)) X Y:=(⟨HB.out.1,HB.out.2.1,fun g hg=>.inl (HI.out.nd.at_.at_.lt g hg)⟩:NfB wa.heap.size (nfY mt v value) (nfY m1 G value) W X Y).below H1.out.2;have HB1:=Lib.hid hB1;clear hB1;go_wp2_with fail
  with_reducible refine HP1.out.mono ?_
  rintro e w5 ⟨X5,Y5,e5,es5,h5,c5,f5,_,gb,Bb,nbb,cb,rfl,hab,hgb,_,_,hgx,_⟩;have hN5:=H1.out.1.turn h5 c5 f5;have hB5:=HB1.out.turn c5 f5;have z0:=hB5.z_.cell 0;have z1:=hB5.z_.cell 1;have z2:=hB5.z_.cell 2;have z3:=hB5.z_.cell 3;have z4:=hB5.z_.cell 4;simp only[It.cells,nfY,gE0,gE1]at z0 z1 z2 z3 z4;have hb5:=(Below.refl w5.heap.size w5).alloc (Nat.le_refl _) (.cells #[.int .i64 4,.int .i64 2,.int .u64 (m1:Int),.int .u64 (G:Int),.int .i64 value] 36);have hN5':=hN5.below hb5;have hx5:=hN5.at_.at_.lt;have hp2:=jq3 hN5'.at_ (HI.out.ns.nrm (by omega) (by omega) (by rw[HI.out.st];simp)) 2 3 0 (some ⟨w5.heap.size,0,none⟩) 1 1 [nfY m1 G value] ⟨by simp,by simp,by simp,by simp,by simp,by simp,HOK.out.2.1,.inr (.inl rfl)⟩ (HR.out.2 w5) (by omega) (by omega) (fun a ha hm=>by
   injection ha with ha;subst ha;have:=hx5 _ hm;simp only at this;omega) HOK.out.2.2
  rw[HP.out.1]at hp2;simp only at hp2;rw[show ((3:Nat):Int)=3 from rfl,show ((0:Nat):Int)=0 from rfl]at hp2;have HP2:=Lib.hid hp2;have HN5:=Lib.hid (And.intro hN5' (And.intro (hB5.below hb5) (And.intro (hab.below hb5) hgx)));clear hp2 hN5 hN5' hB5 hab hgx hb5 hx5 h5 c5 f5 e5 es5 hgb HP1 H1 HB1 HB y0 y1 y2 y3 y4;go_wp2_with fail
  with_reducible refine HP2.out.mono ?_
  rintro e w6 ⟨X6,Y6,e6,es6,h6,c6,f6,_,gc,Bc,ncc,cc,rfl,hac,hgc,_,_,hgcx,_⟩;have hN6:=HN5.out.1.turn h6 c6 f6;have hB6:=HN5.out.2.1.turn c6 f6;have hab6:=HN5.out.2.2.1.chg c6 HN5.out.2.2.2;have hgb6:gb∉XY X6 Y6:=fun hm=>(f6 _ hm).elim HN5.out.2.2.2 (fun q=>by have:=HN5.out.2.2.1.lt;omega);have y0:=hB6.y_.cell 0;have y1:=hB6.y_.cell 1;have y2:=hB6.y_.cell 2;have y3:=hB6.y_.cell 3;have y4:=hB6.y_.cell 4;simp only[It.cells,nfY,gE0,gE1]at y0 y1 y2 y3 y4;obtain⟨f1,hf1⟩:∃f1,f1=F - 1:=⟨_,rfl⟩;have hfs:(F:Int) - 1=(f1:Int):=by have:=HFB.out;omega
  have hwf:IntKind.u64.wrap (f1:Int)=(f1:Int):=IntWalk.u64_in _ (by have:=HFB.out;omega);have hb6:=(Below.refl w6.heap.size w6).alloc (Nat.le_refl _) (.cells #[.int .i64 4,.int .i64 2,.int .u64 (mt:Int),.int .u64 (v:Int),.int .i64 value] 36);have hN6':=hN6.below hb6;have hp3:=dj4 hN6'.at_ HP.out.2.1 1 1 f1 (some ⟨w6.heap.size,0,none⟩) 1 1 [nfY mt v value] (by simp[Mq.ok,isNd,xz2,HOK.out.1.1];have:=HFB.out;omega) (by omega) (HR.out.1 w6) HOK.out.1.2;rw[hf1,HP.out.2.2.2.1,←hf1]at hp3;simp only[Bool.false_eq_true,if_false]at hp3;rw[show ((1:Nat):Int)=1 from rfl]at hp3;have HP3:=Lib.hid hp3;have HN6:=Lib.hid (And.intro hN6' (And.intro (hB6.below hb6) (And.intro (And.intro (hab6.below hb6) hgb6) (And.intro (hac.below hb6) hgcx))));clear hp3 hN6 hN6' hB6 hab6 hgb6 hac hgcx hb6 h6 c6 f6 e6 es6 hgc HP2 HN5 z0 z1 z2 z3 z4 hf1;go_wp2_with fail
  with_reducible refine HP3.out.mono ?_
  rintro e w7 ⟨X7,Y7,e7,es7,h7,c7,f7,_,rfl⟩;have hN7:=HN6.out.1.turn h7 c7 f7;have hB7:=HN6.out.2.1.turn c7 f7;have hab7:=HN6.out.2.2.1.1.chg c7 HN6.out.2.2.1.2;have hac7:=HN6.out.2.2.2.1.chg c7 HN6.out.2.2.2.2;have HST:Hid (∀V,Below w7.heap.size w7 V→Calls Tryz.prog 18 #[.pointer (some ⟨nb,0,none⟩)] V fun e w'=>∃A' c',e=.returned (.slice A' 1 c')∧Row w'.heap.size w' A' 1 5 (itc [nfY m1 G value])∧Below V.heap.size V w'):=Lib.hid fun V hV=>by
   have hn:=(hN7.at_.below hV);have hal:Y7.A.n=1:=by rw[hn.at_.alen,HP.out.2.2.1];rfl
   refine(dw2 hn (by rw[HP.out.2.2.1];simp)).mono ?_;rintro e w' ⟨A',c',rfl,ho,hb⟩;rw[hal,HP.out.2.2.1]at ho;rw[hal];exact⟨A',c',rfl,Row.own ho,hb⟩
  have HEQ:Hid (∀(V:World) A c B,Row V.heap.size V A 1 5 (itc [nfY m1 G value])→Row V.heap.size V B 1 5 (itc [nfY m1 G value])→Calls Tryz.prog 17 #[.slice A 1 c,.slice B 1 1] V fun e w'=>e=.returned (.bool true)∧Below V.heap.size V w'):=Lib.hid fun V A c B h1 h2=>(dx2 A 1 c _ B 1 1 _ V (by omega) (by omega) h1 h2).mono fun e w' ⟨a,b⟩=>⟨by rw[a];simp,b⟩;have HN7:=Lib.hid (And.intro hN7 (And.intro hB7 (And.intro hab7 hac7)));clear hN7 hB7 hab7 hac7 h7 c7 f7 e7 es7 HP3 HN6 y0 y1 y2 y3 y4 hfs hwf;have HRD:Hid (∀V:World,Row (V.drew.alloc (.cells #[.int .i64 4,.int .i64 2,.int .u64 (m1:Int),.int .u64 (G:Int),.int .i64 value] 36)).heap.size (V.drew.alloc (.cells #[.int .i64 4,.int .i64 2,.int .u64 (m1:Int),.int .u64 (G:Int),.int .i64 value] 36)) (some ⟨V.heap.size,0,none⟩) 1 5 (itc [nfY m1 G value])):=Lib.hid fun V=>HR.out.2 V.drew;go_upto_region 21 with (fail)
  go_cut [151] from 109 (fun s wx=>s=.bool false∧Below w7.heap.size w7 wx)
  case first=>
   refine wp_region_held_drew (S:=fun w'=>Below w7.heap.size w7 w') rfl (ak (Below.refl _ _)) (fun hSw=>?_);refine wpT (i:=0) (v:=?vhga0) ?hhga0 hSw ?khga0
   case hhga0=>(intro w hSw;(have q:=(HN7.out.2.1.below hSw).z_;have q0:=q.cell 0;have q1:=q.cell 1;have q2:=q.cell 2;have q3:=q.cell 3;have q4:=q.cell 4;have b0:=(HN7.out.2.2.1.below hSw).cell 0;have b4:=(HN7.out.2.2.1.below hSw).cell 4;have c0:=(HN7.out.2.2.2.below hSw).cell 0;simp only[It.cells,nfY,gE0,gE1]at q0 q1 q2 q3 q4 b0 b4 c0);go_simp;try (with_reducible rfl))
   go_simp;refine wpT (i:=1) (v:=?vhga1) ?hhga1 hSw ?khga1
   case hhga1=>(intro w hSw;(have q:=(HN7.out.2.1.below hSw).z_;have q0:=q.cell 0;have q1:=q.cell 1;have q2:=q.cell 2;have q3:=q.cell 3;have q4:=q.cell 4;have b0:=(HN7.out.2.2.1.below hSw).cell 0;have b4:=(HN7.out.2.2.1.below hSw).cell 4;have c0:=(HN7.out.2.2.2.below hSw).cell 0;simp only[It.cells,nfY,gE0,gE1]at q0 q1 q2 q3 q4 b0 b4 c0);go_simp;try (with_reducible rfl))
   go_simp;refine wpT (i:=2) (v:=?vhga2) ?hhga2 hSw ?khga2
   case hhga2=>(intro w hSw;(have q:=(HN7.out.2.1.below hSw).z_;have q0:=q.cell 0;have q1:=q.cell 1;have q2:=q.cell 2;have q3:=q.cell 3;have q4:=q.cell 4;have b0:=(HN7.out.2.2.1.below hSw).cell 0;have b4:=(HN7.out.2.2.1.below hSw).cell 4;have c0:=(HN7.out.2.2.2.below hSw).cell 0;simp only[It.cells,nfY,gE0,gE1]at q0 q1 q2 q3 q4 b0 b4 c0);go_simp;try (with_reducible rfl))
   go_simp;refine wpT (i:=3) (v:=?vhga3) ?hhga3 hSw ?khga3
   case hhga3=>(intro w hSw;(have q:=(HN7.out.2.1.below hSw).z_;have q0:=q.cell 0;have q1:=q.cell 1;have q2:=q.cell 2;have q3:=q.cell 3;have q4:=q.cell 4;have b0:=(HN7.out.2.2.1.below hSw).cell 0;have b4:=(HN7.out.2.2.1.below hSw).cell 4;have c0:=(HN7.out.2.2.2.below hSw).cell 0;simp only[It.cells,nfY,gE0,gE1]at q0 q1 q2 q3 q4 b0 b4 c0);go_simp;try (with_reducible rfl))
   go_simp;refine wpT (i:=4) (v:=?vhga4) ?hhga4 hSw ?khga4
   case hhga4=>(intro w hSw;(have q:=(HN7.out.2.1.below hSw).z_;have q0:=q.cell 0;have q1:=q.cell 1;have q2:=q.cell 2;have q3:=q.cell 3;have q4:=q.cell 4;have b0:=(HN7.out.2.2.1.below hSw).cell 0;have b4:=(HN7.out.2.2.1.below hSw).cell 4;have c0:=(HN7.out.2.2.2.below hSw).cell 0;simp only[It.cells,nfY,gE0,gE1]at q0 q1 q2 q3 q4 b0 b4 c0);go_simp;try (with_reducible rfl))
   go_simp;refine wpT (i:=5) (v:=?vhga5) ?hhga5 hSw ?khga5
   case hhga5=>(intro w hSw;(have q:=(HN7.out.2.1.below hSw).z_;have q0:=q.cell 0;have q1:=q.cell 1;have q2:=q.cell 2;have q3:=q.cell 3;have q4:=q.cell 4;have b0:=(HN7.out.2.2.1.below hSw).cell 0;have b4:=(HN7.out.2.2.1.below hSw).cell 4;have c0:=(HN7.out.2.2.2.below hSw).cell 0;simp only[It.cells,nfY,gE0,gE1]at q0 q1 q2 q3 q4 b0 b4 c0);go_simp;try (with_reducible rfl))
   go_simp;refine wpT (i:=6) (v:=?vhga6) ?hhga6 hSw ?khga6
   case hhga6=>(intro w hSw;(have q:=(HN7.out.2.1.below hSw).z_;have q0:=q.cell 0;have q1:=q.cell 1;have q2:=q.cell 2;have q3:=q.cell 3;have q4:=q.cell 4;have b0:=(HN7.out.2.2.1.below hSw).cell 0;have b4:=(HN7.out.2.2.1.below hSw).cell 4;have c0:=(HN7.out.2.2.2.below hSw).cell 0;simp only[It.cells,nfY,gE0,gE1]at q0 q1 q2 q3 q4 b0 b4 c0);go_simp;try (with_reducible rfl))
   go_simp;refine wpT (i:=7) (v:=?vhga7) ?hhga7 hSw ?khga7
   case hhga7=>(intro w hSw;(have q:=(HN7.out.2.1.below hSw).z_;have q0:=q.cell 0;have q1:=q.cell 1;have q2:=q.cell 2;have q3:=q.cell 3;have q4:=q.cell 4;have b0:=(HN7.out.2.2.1.below hSw).cell 0;have b4:=(HN7.out.2.2.1.below hSw).cell 4;have c0:=(HN7.out.2.2.2.below hSw).cell 0;simp only[It.cells,nfY,gE0,gE1]at q0 q1 q2 q3 q4 b0 b4 c0);go_simp;try (with_reducible rfl))
   go_simp;refine wpT (i:=8) (v:=?vhga8) ?hhga8 hSw ?khga8
   case hhga8=>(intro w hSw;(have q:=(HN7.out.2.1.below hSw).z_;have q0:=q.cell 0;have q1:=q.cell 1;have q2:=q.cell 2;have q3:=q.cell 3;have q4:=q.cell 4;have b0:=(HN7.out.2.2.1.below hSw).cell 0;have b4:=(HN7.out.2.2.1.below hSw).cell 4;have c0:=(HN7.out.2.2.2.below hSw).cell 0;simp only[It.cells,nfY,gE0,gE1]at q0 q1 q2 q3 q4 b0 b4 c0);go_simp;try (with_reducible rfl))
   go_simp;refine wpT (i:=9) (v:=?vhga9) ?hhga9 hSw ?khga9
   case hhga9=>(intro w hSw;(have q:=(HN7.out.2.1.below hSw).z_;have q0:=q.cell 0;have q1:=q.cell 1;have q2:=q.cell 2;have q3:=q.cell 3;have q4:=q.cell 4;have b0:=(HN7.out.2.2.1.below hSw).cell 0;have b4:=(HN7.out.2.2.1.below hSw).cell 4;have c0:=(HN7.out.2.2.2.below hSw).cell 0;simp only[It.cells,nfY,gE0,gE1]at q0 q1 q2 q3 q4 b0 b4 c0);go_simp;try (with_reducible rfl))
   go_simp;refine wpT (i:=10) (v:=?vhga10) ?hhga10 hSw ?khga10
   case hhga10=>(intro w hSw;(have q:=(HN7.out.2.1.below hSw).z_;have q0:=q.cell 0;have q1:=q.cell 1;have q2:=q.cell 2;have q3:=q.cell 3;have q4:=q.cell 4;have b0:=(HN7.out.2.2.1.below hSw).cell 0;have b4:=(HN7.out.2.2.1.below hSw).cell 4;have c0:=(HN7.out.2.2.2.below hSw).cell 0;simp only[It.cells,nfY,gE0,gE1]at q0 q1 q2 q3 q4 b0 b4 c0);go_simp;try (with_reducible rfl))
   go_simp;refine wpT (i:=11) (v:=?vhga11) ?hhga11 hSw ?khga11
   case hhga11=>(intro w hSw;(have q:=(HN7.out.2.1.below hSw).z_;have q0:=q.cell 0;have q1:=q.cell 1;have q2:=q.cell 2;have q3:=q.cell 3;have q4:=q.cell 4;have b0:=(HN7.out.2.2.1.below hSw).cell 0;have b4:=(HN7.out.2.2.1.below hSw).cell 4;have c0:=(HN7.out.2.2.2.below hSw).cell 0;simp only[It.cells,nfY,gE0,gE1]at q0 q1 q2 q3 q4 b0 b4 c0);go_simp;try (with_reducible rfl))
   go_simp;refine wpT (i:=12) (v:=?vhga12) ?hhga12 hSw ?khga12
   case hhga12=>(intro w hSw;(have q:=(HN7.out.2.1.below hSw).z_;have q0:=q.cell 0;have q1:=q.cell 1;have q2:=q.cell 2;have q3:=q.cell 3;have q4:=q.cell 4;have b0:=(HN7.out.2.2.1.below hSw).cell 0;have b4:=(HN7.out.2.2.1.below hSw).cell 4;have c0:=(HN7.out.2.2.2.below hSw).cell 0;simp only[It.cells,nfY,gE0,gE1]at q0 q1 q2 q3 q4 b0 b4 c0);go_simp;try (with_reducible rfl))
   go_simp;refine wpT (i:=13) (v:=?vhga13) ?hhga13 hSw ?khga13
   case hhga13=>(intro w hSw;(have q:=(HN7.out.2.1.below hSw).z_;have q0:=q.cell 0;have q1:=q.cell 1;have q2:=q.cell 2;have q3:=q.cell 3;have q4:=q.cell 4;have b0:=(HN7.out.2.2.1.below hSw).cell 0;have b4:=(HN7.out.2.2.1.below hSw).cell 4;have c0:=(HN7.out.2.2.2.below hSw).cell 0;simp only[It.cells,nfY,gE0,gE1]at q0 q1 q2 q3 q4 b0 b4 c0);go_simp;try (with_reducible rfl))
   go_simp;refine wpT (i:=14) (v:=?vhga14) ?hhga14 hSw ?khga14
   case hhga14=>(intro w hSw;(have q:=(HN7.out.2.1.below hSw).z_;have q0:=q.cell 0;have q1:=q.cell 1;have q2:=q.cell 2;have q3:=q.cell 3;have q4:=q.cell 4;have b0:=(HN7.out.2.2.1.below hSw).cell 0;have b4:=(HN7.out.2.2.1.below hSw).cell 4;have c0:=(HN7.out.2.2.2.below hSw).cell 0;simp only[It.cells,nfY,gE0,gE1]at q0 q1 q2 q3 q4 b0 b4 c0);go_simp;try (with_reducible rfl))
   go_simp;refine wpT (i:=15) (v:=?vhga15) ?hhga15 hSw ?khga15
   case hhga15=>(intro w hSw;(have q:=(HN7.out.2.1.below hSw).z_;have q0:=q.cell 0;have q1:=q.cell 1;have q2:=q.cell 2;have q3:=q.cell 3;have q4:=q.cell 4;have b0:=(HN7.out.2.2.1.below hSw).cell 0;have b4:=(HN7.out.2.2.1.below hSw).cell 4;have c0:=(HN7.out.2.2.2.below hSw).cell 0;simp only[It.cells,nfY,gE0,gE1]at q0 q1 q2 q3 q4 b0 b4 c0);go_simp;try (with_reducible rfl))
   go_simp;refine wpT (i:=16) (v:=?vhga16) ?hhga16 hSw ?khga16
   case hhga16=>(intro w hSw;(have q:=(HN7.out.2.1.below hSw).z_;have q0:=q.cell 0;have q1:=q.cell 1;have q2:=q.cell 2;have q3:=q.cell 3;have q4:=q.cell 4;have b0:=(HN7.out.2.2.1.below hSw).cell 0;have b4:=(HN7.out.2.2.1.below hSw).cell 4;have c0:=(HN7.out.2.2.2.below hSw).cell 0;simp only[It.cells,nfY,gE0,gE1]at q0 q1 q2 q3 q4 b0 b4 c0);go_simp;try (with_reducible rfl))
   go_simp;refine wpT (i:=17) (v:=?vhga17) ?hhga17 hSw ?khga17
   case hhga17=>(intro w hSw;(have q:=(HN7.out.2.1.below hSw).z_;have q0:=q.cell 0;have q1:=q.cell 1;have q2:=q.cell 2;have q3:=q.cell 3;have q4:=q.cell 4;have b0:=(HN7.out.2.2.1.below hSw).cell 0;have b4:=(HN7.out.2.2.1.below hSw).cell 4;have c0:=(HN7.out.2.2.2.below hSw).cell 0;simp only[It.cells,nfY,gE0,gE1]at q0 q1 q2 q3 q4 b0 b4 c0);go_simp;try (with_reducible rfl))
   go_simp;refine wpT (i:=18) (v:=?vhga18) ?hhga18 hSw ?khga18
   case hhga18=>(intro w hSw;(have q:=(HN7.out.2.1.below hSw).z_;have q0:=q.cell 0;have q1:=q.cell 1;have q2:=q.cell 2;have q3:=q.cell 3;have q4:=q.cell 4;have b0:=(HN7.out.2.2.1.below hSw).cell 0;have b4:=(HN7.out.2.2.1.below hSw).cell 4;have c0:=(HN7.out.2.2.2.below hSw).cell 0;simp only[It.cells,nfY,gE0,gE1]at q0 q1 q2 q3 q4 b0 b4 c0);go_simp;try (with_reducible rfl))
   go_simp;refine wpT (i:=19) (v:=?vhga19) ?hhga19 hSw ?khga19
   case hhga19=>(intro w hSw;(have q:=(HN7.out.2.1.below hSw).z_;have q0:=q.cell 0;have q1:=q.cell 1;have q2:=q.cell 2;have q3:=q.cell 3;have q4:=q.cell 4;have b0:=(HN7.out.2.2.1.below hSw).cell 0;have b4:=(HN7.out.2.2.1.below hSw).cell 4;have c0:=(HN7.out.2.2.2.below hSw).cell 0;simp only[It.cells,nfY,gE0,gE1]at q0 q1 q2 q3 q4 b0 b4 c0);go_simp;try (with_reducible rfl))
   go_simp;refine wpT (i:=20) (v:=?vhga20) ?hhga20 hSw ?khga20
   case hhga20=>(intro w hSw;(have q:=(HN7.out.2.1.below hSw).z_;have q0:=q.cell 0;have q1:=q.cell 1;have q2:=q.cell 2;have q3:=q.cell 3;have q4:=q.cell 4;have b0:=(HN7.out.2.2.1.below hSw).cell 0;have b4:=(HN7.out.2.2.1.below hSw).cell 4;have c0:=(HN7.out.2.2.2.below hSw).cell 0;simp only[It.cells,nfY,gE0,gE1]at q0 q1 q2 q3 q4 b0 b4 c0);go_simp;try (with_reducible rfl))
   go_simp;refine wpT (i:=21) (v:=?vhga21) ?hhga21 hSw ?khga21
   case hhga21=>(intro w hSw;(have q:=(HN7.out.2.1.below hSw).z_;have q0:=q.cell 0;have q1:=q.cell 1;have q2:=q.cell 2;have q3:=q.cell 3;have q4:=q.cell 4;have b0:=(HN7.out.2.2.1.below hSw).cell 0;have b4:=(HN7.out.2.2.1.below hSw).cell 4;have c0:=(HN7.out.2.2.2.below hSw).cell 0;simp only[It.cells,nfY,gE0,gE1]at q0 q1 q2 q3 q4 b0 b4 c0);go_simp;try (with_reducible rfl))
   go_simp;refine wpT (i:=22) (v:=?vhga22) ?hhga22 hSw ?khga22
   case hhga22=>(intro w hSw;(have q:=(HN7.out.2.1.below hSw).z_;have q0:=q.cell 0;have q1:=q.cell 1;have q2:=q.cell 2;have q3:=q.cell 3;have q4:=q.cell 4;have b0:=(HN7.out.2.2.1.below hSw).cell 0;have b4:=(HN7.out.2.2.1.below hSw).cell 4;have c0:=(HN7.out.2.2.2.below hSw).cell 0;simp only[It.cells,nfY,gE0,gE1]at q0 q1 q2 q3 q4 b0 b4 c0);go_simp;try (with_reducible rfl))
   go_simp;refine wpT (i:=23) (v:=?vhga23) ?hhga23 hSw ?khga23
   case hhga23=>(intro w hSw;(have q:=(HN7.out.2.1.below hSw).z_;have q0:=q.cell 0;have q1:=q.cell 1;have q2:=q.cell 2;have q3:=q.cell 3;have q4:=q.cell 4;have b0:=(HN7.out.2.2.1.below hSw).cell 0;have b4:=(HN7.out.2.2.1.below hSw).cell 4;have c0:=(HN7.out.2.2.2.below hSw).cell 0;simp only[It.cells,nfY,gE0,gE1]at q0 q1 q2 q3 q4 b0 b4 c0);go_simp;try (with_reducible rfl))
   go_simp;refine wpT (i:=24) (v:=?vhga24) ?hhga24 hSw ?khga24
   case hhga24=>(intro w hSw;(have q:=(HN7.out.2.1.below hSw).z_;have q0:=q.cell 0;have q1:=q.cell 1;have q2:=q.cell 2;have q3:=q.cell 3;have q4:=q.cell 4;have b0:=(HN7.out.2.2.1.below hSw).cell 0;have b4:=(HN7.out.2.2.1.below hSw).cell 4;have c0:=(HN7.out.2.2.2.below hSw).cell 0;simp only[It.cells,nfY,gE0,gE1]at q0 q1 q2 q3 q4 b0 b4 c0);go_simp;try (with_reducible rfl))
   go_simp;refine wpT (i:=25) (v:=?vhga25) ?hhga25 hSw ?khga25
   case hhga25=>(intro w hSw;(have q:=(HN7.out.2.1.below hSw).z_;have q0:=q.cell 0;have q1:=q.cell 1;have q2:=q.cell 2;have q3:=q.cell 3;have q4:=q.cell 4;have b0:=(HN7.out.2.2.1.below hSw).cell 0;have b4:=(HN7.out.2.2.1.below hSw).cell 4;have c0:=(HN7.out.2.2.2.below hSw).cell 0;simp only[It.cells,nfY,gE0,gE1]at q0 q1 q2 q3 q4 b0 b4 c0);go_simp;try (with_reducible rfl))
   go_simp;refine wpT (i:=26) (v:=?vhga26) ?hhga26 hSw ?khga26
   case hhga26=>(intro w hSw;(have q:=(HN7.out.2.1.below hSw).z_;have q0:=q.cell 0;have q1:=q.cell 1;have q2:=q.cell 2;have q3:=q.cell 3;have q4:=q.cell 4;have b0:=(HN7.out.2.2.1.below hSw).cell 0;have b4:=(HN7.out.2.2.1.below hSw).cell 4;have c0:=(HN7.out.2.2.2.below hSw).cell 0;simp only[It.cells,nfY,gE0,gE1]at q0 q1 q2 q3 q4 b0 b4 c0);go_simp;try (with_reducible rfl))
   go_simp;refine wpT (i:=27) (v:=?vhga27) ?hhga27 hSw ?khga27
   case hhga27=>(intro w hSw;(have q:=(HN7.out.2.1.below hSw).z_;have q0:=q.cell 0;have q1:=q.cell 1;have q2:=q.cell 2;have q3:=q.cell 3;have q4:=q.cell 4;have b0:=(HN7.out.2.2.1.below hSw).cell 0;have b4:=(HN7.out.2.2.1.below hSw).cell 4;have c0:=(HN7.out.2.2.2.below hSw).cell 0;simp only[It.cells,nfY,gE0,gE1]at q0 q1 q2 q3 q4 b0 b4 c0);go_simp;try (with_reducible rfl))
   go_simp;refine wpT (i:=28) (v:=?vhga28) ?hhga28 hSw ?khga28
   case hhga28=>(intro w hSw;(have q:=(HN7.out.2.1.below hSw).z_;have q0:=q.cell 0;have q1:=q.cell 1;have q2:=q.cell 2;have q3:=q.cell 3;have q4:=q.cell 4;have b0:=(HN7.out.2.2.1.below hSw).cell 0;have b4:=(HN7.out.2.2.1.below hSw).cell 4;have c0:=(HN7.out.2.2.2.below hSw).cell 0;simp only[It.cells,nfY,gE0,gE1]at q0 q1 q2 q3 q4 b0 b4 c0);go_simp;try (with_reducible rfl))
   go_simp;refine wpT (i:=29) (v:=?vhga29) ?hhga29 hSw ?khga29
   case hhga29=>(intro w hSw;(have q:=(HN7.out.2.1.below hSw).z_;have q0:=q.cell 0;have q1:=q.cell 1;have q2:=q.cell 2;have q3:=q.cell 3;have q4:=q.cell 4;have b0:=(HN7.out.2.2.1.below hSw).cell 0;have b4:=(HN7.out.2.2.1.below hSw).cell 4;have c0:=(HN7.out.2.2.2.below hSw).cell 0;simp only[It.cells,nfY,gE0,gE1]at q0 q1 q2 q3 q4 b0 b4 c0);go_simp;try (with_reducible rfl))
   go_simp;refine wpT (i:=30) (v:=?vhga30) ?hhga30 hSw ?khga30
   case hhga30=>(intro w hSw;(have q:=(HN7.out.2.1.below hSw).z_;have q0:=q.cell 0;have q1:=q.cell 1;have q2:=q.cell 2;have q3:=q.cell 3;have q4:=q.cell 4;have b0:=(HN7.out.2.2.1.below hSw).cell 0;have b4:=(HN7.out.2.2.1.below hSw).cell 4;have c0:=(HN7.out.2.2.2.below hSw).cell 0;simp only[It.cells,nfY,gE0,gE1]at q0 q1 q2 q3 q4 b0 b4 c0);go_simp;try (with_reducible rfl))
   go_simp;refine wpT (i:=31) (v:=?vhga31) ?hhga31 hSw ?khga31
   case hhga31=>(intro w hSw;(have q:=(HN7.out.2.1.below hSw).z_;have q0:=q.cell 0;have q1:=q.cell 1;have q2:=q.cell 2;have q3:=q.cell 3;have q4:=q.cell 4;have b0:=(HN7.out.2.2.1.below hSw).cell 0;have b4:=(HN7.out.2.2.1.below hSw).cell 4;have c0:=(HN7.out.2.2.2.below hSw).cell 0;simp only[It.cells,nfY,gE0,gE1]at q0 q1 q2 q3 q4 b0 b4 c0);go_simp;try (with_reducible rfl))
   go_simp;refine wpT (i:=32) (v:=?vhga32) ?hhga32 hSw ?khga32
   case hhga32=>(intro w hSw;(have q:=(HN7.out.2.1.below hSw).z_;have q0:=q.cell 0;have q1:=q.cell 1;have q2:=q.cell 2;have q3:=q.cell 3;have q4:=q.cell 4;have b0:=(HN7.out.2.2.1.below hSw).cell 0;have b4:=(HN7.out.2.2.1.below hSw).cell 4;have c0:=(HN7.out.2.2.2.below hSw).cell 0;simp only[It.cells,nfY,gE0,gE1]at q0 q1 q2 q3 q4 b0 b4 c0);go_simp;try (with_reducible rfl))
   go_simp;refine wpT (i:=33) (v:=?vhga33) ?hhga33 hSw ?khga33
   case hhga33=>(intro w hSw;(have q:=(HN7.out.2.1.below hSw).z_;have q0:=q.cell 0;have q1:=q.cell 1;have q2:=q.cell 2;have q3:=q.cell 3;have q4:=q.cell 4;have b0:=(HN7.out.2.2.1.below hSw).cell 0;have b4:=(HN7.out.2.2.1.below hSw).cell 4;have c0:=(HN7.out.2.2.2.below hSw).cell 0;simp only[It.cells,nfY,gE0,gE1]at q0 q1 q2 q3 q4 b0 b4 c0);go_simp;try (with_reducible rfl))
   go_simp;refine wpT (i:=34) (v:=?vhga34) ?hhga34 hSw ?khga34
   case hhga34=>(intro w hSw;(have q:=(HN7.out.2.1.below hSw).z_;have q0:=q.cell 0;have q1:=q.cell 1;have q2:=q.cell 2;have q3:=q.cell 3;have q4:=q.cell 4;have b0:=(HN7.out.2.2.1.below hSw).cell 0;have b4:=(HN7.out.2.2.1.below hSw).cell 4;have c0:=(HN7.out.2.2.2.below hSw).cell 0;simp only[It.cells,nfY,gE0,gE1]at q0 q1 q2 q3 q4 b0 b4 c0);go_simp;try (with_reducible rfl))
   go_simp;refine wpT (i:=35) (v:=?vhga35) ?hhga35 hSw ?khga35
   case hhga35=>(intro w hSw;(have q:=(HN7.out.2.1.below hSw).z_;have q0:=q.cell 0;have q1:=q.cell 1;have q2:=q.cell 2;have q3:=q.cell 3;have q4:=q.cell 4;have b0:=(HN7.out.2.2.1.below hSw).cell 0;have b4:=(HN7.out.2.2.1.below hSw).cell 4;have c0:=(HN7.out.2.2.2.below hSw).cell 0;simp only[It.cells,nfY,gE0,gE1]at q0 q1 q2 q3 q4 b0 b4 c0);go_simp;try (with_reducible rfl))
   go_simp;refine wpT (i:=36) (v:=?vhga36) ?hhga36 hSw ?khga36
   case hhga36=>(intro w hSw;(have q:=(HN7.out.2.1.below hSw).z_;have q0:=q.cell 0;have q1:=q.cell 1;have q2:=q.cell 2;have q3:=q.cell 3;have q4:=q.cell 4;have b0:=(HN7.out.2.2.1.below hSw).cell 0;have b4:=(HN7.out.2.2.1.below hSw).cell 4;have c0:=(HN7.out.2.2.2.below hSw).cell 0;simp only[It.cells,nfY,gE0,gE1]at q0 q1 q2 q3 q4 b0 b4 c0);go_simp;try (with_reducible rfl))
   go_simp;refine wpT (i:=38) (v:=?vhga38) ?hhga38 hSw ?khga38
   case hhga38=>(intro w hSw;(have q:=(HN7.out.2.1.below hSw).z_;have q0:=q.cell 0;have q1:=q.cell 1;have q2:=q.cell 2;have q3:=q.cell 3;have q4:=q.cell 4;have b0:=(HN7.out.2.2.1.below hSw).cell 0;have b4:=(HN7.out.2.2.1.below hSw).cell 4;have c0:=(HN7.out.2.2.2.below hSw).cell 0;simp only[It.cells,nfY,gE0,gE1]at q0 q1 q2 q3 q4 b0 b4 c0);go_simp;try (with_reducible rfl))
   go_simp;refine wpAnyH_ready (rs:=[37,39]) (by kernel_rfl) (by simp) ?_;refine AllReadyH.cons rfl (fun K hK=>?_) (AllReadyH.cons rfl (fun K hK=>?_) AllReadyH.nil)
   ·go_simp
    with_reducible refine(HST.out _ hSw).mono ?_
    rintro e w8 ⟨A8,c8,rfl,hr8,hb8⟩;go_simp;refine hK.out _ _ (az hSw hb8) (fun hSn=>?_);clear hK K hSw;have hSw:=hSn;clear hSn;go_simp;refine wpAnyH_ready (rs:=[39]) (by kernel_rfl) (by simp) ?_;refine AllReadyH.cons rfl (fun K hK=>?_) AllReadyH.nil
    ·go_simp
     refine hK.out _ _ (hSw.alloc hSw.size _) (fun hSn=>?_);clear hK K hSw;have hSw:=hSn;clear hSn;go_simp;refine wpAnyH_ready (rs:=[40]) (by kernel_rfl) (by simp) ?_;refine AllReadyH.cons rfl (fun K hK=>?_) AllReadyH.nil;go_simp
     first|refine(HEQ.out _ A8 c8 _ hr8 (((HRD.out w7).below hb8).up hb8.size)).mono ?_|with_reducible refine(HEQ.out _ _ _ _ ((hr8.alloc (Nat.le_refl _) _).up (by simp)) (HR.out.2 _)).mono ?_
     rintro e w9 ⟨rfl,hb9⟩;go_simp;refine hK.out _ _ (az hSw hb9) (fun hSn=>?_);clear hK K hSw;have hSw:=hSn;clear hSn;go_simp;refine wpT (i:=41) (v:=?vhgaaa41) ?hhgaaa41 hSw ?khgaaa41
     case hhgaaa41=>(intro w hSw;(have q:=(HN7.out.2.1.below hSw).z_;have q0:=q.cell 0;have q1:=q.cell 1;have q2:=q.cell 2;have q3:=q.cell 3;have q4:=q.cell 4;have b0:=(HN7.out.2.2.1.below hSw).cell 0;have b4:=(HN7.out.2.2.1.below hSw).cell 4;have c0:=(HN7.out.2.2.2.below hSw).cell 0;simp only[It.cells,nfY,gE0,gE1]at q0 q1 q2 q3 q4 b0 b4 c0);go_simp;try (with_reducible rfl))
     go_simp;refine wpT (i:=42) (v:=?vhgaaa42) ?hhgaaa42 hSw ?khgaaa42
     case hhgaaa42=>(intro w hSw;(have q:=(HN7.out.2.1.below hSw).z_;have q0:=q.cell 0;have q1:=q.cell 1;have q2:=q.cell 2;have q3:=q.cell 3;have q4:=q.cell 4;have b0:=(HN7.out.2.2.1.below hSw).cell 0;have b4:=(HN7.out.2.2.1.below hSw).cell 4;have c0:=(HN7.out.2.2.2.below hSw).cell 0;simp only[It.cells,nfY,gE0,gE1]at q0 q1 q2 q3 q4 b0 b4 c0);go_simp;try (with_reducible rfl))
     go_simp;refine wpAnyH_done (by kernel_rfl) ?_ _;have hmeet:=hSw;clear hSw HN7 HST HEQ HR HRD HP HOK HI HMS HGM;go_wp2_with fail
     go_meet
     exact⟨rfl,hmeet⟩
   ·go_simp
    refine hK.out _ _ (hSw.alloc hSw.size _) (fun hSn=>?_);clear hK K hSw;have hSw:=hSn;clear hSn;go_simp;refine wpAnyH_ready (rs:=[37]) (by kernel_rfl) (by simp) ?_;refine AllReadyH.cons rfl (fun K hK=>?_) AllReadyH.nil
    ·go_simp
     with_reducible refine(HST.out _ hSw).mono ?_
     rintro e w8 ⟨A8,c8,rfl,hr8,hb8⟩;go_simp;refine hK.out _ _ (az hSw hb8) (fun hSn=>?_);clear hK K hSw;have hSw:=hSn;clear hSn;go_simp;refine wpAnyH_ready (rs:=[40]) (by kernel_rfl) (by simp) ?_;refine AllReadyH.cons rfl (fun K hK=>?_) AllReadyH.nil;go_simp
     first|refine(HEQ.out _ A8 c8 _ hr8 (((HRD.out w7).below hb8).up hb8.size)).mono ?_|with_reducible refine(HEQ.out _ _ _ _ ((hr8.alloc (Nat.le_refl _) _).up (by simp)) (HR.out.2 _)).mono ?_
     rintro e w9 ⟨rfl,hb9⟩;go_simp;refine hK.out _ _ (az hSw hb9) (fun hSn=>?_);clear hK K hSw;have hSw:=hSn;clear hSn;go_simp;refine wpT (i:=41) (v:=?vhgaba41) ?hhgaba41 hSw ?khgaba41
     case hhgaba41=>(intro w hSw;(have q:=(HN7.out.2.1.below hSw).z_;have q0:=q.cell 0;have q1:=q.cell 1;have q2:=q.cell 2;have q3:=q.cell 3;have q4:=q.cell 4;have b0:=(HN7.out.2.2.1.below hSw).cell 0;have b4:=(HN7.out.2.2.1.below hSw).cell 4;have c0:=(HN7.out.2.2.2.below hSw).cell 0;simp only[It.cells,nfY,gE0,gE1]at q0 q1 q2 q3 q4 b0 b4 c0);go_simp;try (with_reducible rfl))
     go_simp;refine wpT (i:=42) (v:=?vhgaba42) ?hhgaba42 hSw ?khgaba42
     case hhgaba42=>(intro w hSw;(have q:=(HN7.out.2.1.below hSw).z_;have q0:=q.cell 0;have q1:=q.cell 1;have q2:=q.cell 2;have q3:=q.cell 3;have q4:=q.cell 4;have b0:=(HN7.out.2.2.1.below hSw).cell 0;have b4:=(HN7.out.2.2.1.below hSw).cell 4;have c0:=(HN7.out.2.2.2.below hSw).cell 0;simp only[It.cells,nfY,gE0,gE1]at q0 q1 q2 q3 q4 b0 b4 c0);go_simp;try (with_reducible rfl))
     go_simp;refine wpAnyH_done (by kernel_rfl) ?_ _;have hmeet:=hSw;clear hSw HN7 HST HEQ HR HRD HP HOK HI HMS HGM;go_wp2_with fail
     go_meet
     exact⟨rfl,hmeet⟩
  case rest=>
   obtain⟨rfl,hbc⟩:=hcut;clear HST HEQ HRD;have hNc:=HN7.out.1.below hbc;have hBc:=HN7.out.2.1.below hbc;have y0:=hBc.y_.cell 0;have y1:=hBc.y_.cell 1;have y2:=hBc.y_.cell 2;have y3:=hBc.y_.cell 3;have y4:=hBc.y_.cell 4;simp only[It.cells,nfY,gE0,gE1]at y0 y1 y2 y3 y4;have hbA:=(Below.refl wc.heap.size wc).alloc (Nat.le_refl _) (.cells #[.int .i64 4,.int .i64 2,.int .u64 (mt:Int),.int .u64 (v:Int),.int .i64 value] 36);have hNc':=hNc.below hbA;have hp4:=dj4 hNc'.at_ HP.out.2.1 1 1 F (some ⟨wc.heap.size,0,none⟩) 1 1 [nfY mt v value] (by simp[Mq.ok,isNd,xz2,HOK.out.1.1];have:=HFB.out;omega) (by omega) (HR.out.1 wc) HOK.out.1.2;rw[HP.out.2.2.2.2.1]at hp4;simp only[if_true]at hp4;rw[show ((1:Nat):Int)=1 from rfl]at hp4;have HP4:=Lib.hid hp4;have HNC:=Lib.hid (And.intro hNc' (hBc.below hbA));clear hbA hNc hNc' hBc hp4;go_wp2_with fail
   with_reducible refine HP4.out.mono ?_
   rintro e w9 ⟨X9,Y9,e9,es9,h9,c9,f9,_,gd,Bd,ncd,cd,rfl,had,hgd,_,_,hgdx,_⟩;have hN9:=HNC.out.1.turn h9 c9 f9;have hB9:=HNC.out.2.turn c9 f9;have HST:Hid (∀V,Below w9.heap.size w9 V→Calls Tryz.prog 18 #[.pointer (some ⟨nb,0,none⟩)] V fun e w'=>∃A' c',e=.returned (.slice A' 2 c')∧Row w'.heap.size w' A' 2 5 (itc [nfY mt v value,nfY m1 G value])∧Below V.heap.size V w'):=Lib.hid fun V hV=>by
    have hn:=(hN9.at_.below hV);have hal:Y9.A.n=2:=by rw[hn.at_.alen];exact HP.out.2.2.2.2.2.2
    refine(dw2 hn (by rw[HP.out.2.2.2.2.2.2];omega)).mono ?_;rintro e w' ⟨A',c',rfl,ho,hb⟩;rw[hal,HP.out.2.2.2.2.2.1]at ho;rw[hal];exact⟨A',c',rfl,Row.own ho,hb⟩
   have HEQ:Hid (∀(V:World) A c B,Row V.heap.size V A 2 5 (itc [nfY mt v value,nfY m1 G value])→Row V.heap.size V B 2 5 (itc [nfY mt v value,nfY m1 G value])→Calls Tryz.prog 17 #[.slice A 2 c,.slice B 2 2] V fun e w'=>e=.returned (.bool true)∧Below V.heap.size V w'):=Lib.hid fun V A c B h1 h2=>(dx2 A 2 c _ B 2 2 _ V (by omega) (by omega) h1 h2).mono fun e w' ⟨a,b⟩=>⟨by rw[a];simp,b⟩;have ho2:∀V:World,Row (V.alloc (.cells #[.int .i64 4,.int .i64 2,.int .u64 (mt:Int),.int .u64 (v:Int),.int .i64 value,.int .i64 4,.int .i64 2,.int .u64 (m1:Int),.int .u64 (G:Int),.int .i64 value] 36)).heap.size (V.alloc (.cells #[.int .i64 4,.int .i64 2,.int .u64 (mt:Int),.int .u64 (v:Int),.int .i64 value,.int .i64 4,.int .i64 2,.int .u64 (m1:Int),.int .u64 (G:Int),.int .i64 value] 36)) (some ⟨V.heap.size,0,none⟩) 2 5 (itc [nfY mt v value,nfY m1 G value]):=fun V:World=>(Row.new V #[.int .i64 4,.int .i64 2,.int .u64 (mt:Int),.int .u64 (v:Int),.int .i64 value,.int .i64 4,.int .i64 2,.int .u64 (m1:Int),.int .u64 (G:Int),.int .i64 value] 36 (n:=2) (size:=5) rfl).up (by simp);have HR2:=Lib.hid ho2;have HRD:=Lib.hid (fun V:World=>ho2 V.drew);have HAW:Hid (∀V,Below w9.heap.size w9 V→Calls Tryz.prog 19 #[] V fun e w'=>e=.returned (.bool true)∧Below V.heap.size V w'):=Lib.hid fun V hV=>yj4 (HE.out.below (hN9.bel.trans (hV.mono hN9.bel.size)));have HN9:=Lib.hid (And.intro hN9.bel (And.intro hB9 had));clear hN9 hB9 had h9 c9 f9 e9 es9 hgd hgdx HP4 HNC HN7 ho2 y0 y1 y2 y3 y4 HP HOK HR HI HMS HGM;go_upto_region 24 with (fail)
   go_cut [10] from 158 (fun s wx=>s=.bool true∧Below w9.heap.size w9 wx)
   case first=>
    refine wp_region_held_drew (S:=fun w'=>Below w9.heap.size w9 w') rfl (ak (Below.refl _ _)) (fun hSw=>?_);refine wpT (i:=0) (v:=?vhgb0) ?hhgb0 hSw ?khgb0
    case hhgb0=>(intro w hSw;(have q:=(HN9.out.2.1.below hSw).z_;have q0:=q.cell 0;have q1:=q.cell 1;have q2:=q.cell 2;have q3:=q.cell 3;have q4:=q.cell 4;have y:=(HN9.out.2.1.below hSw).y_;have y0:=y.cell 0;have y1:=y.cell 1;have y2:=y.cell 2;have y3:=y.cell 3;have y4:=y.cell 4;have d0:=(HN9.out.2.2.below hSw).cell 0;simp only[It.cells,nfY,gE0,gE1]at q0 q1 q2 q3 q4 y0 y1 y2 y3 y4 d0);go_simp;try (with_reducible rfl))
    go_simp;refine wpT (i:=1) (v:=?vhgb1) ?hhgb1 hSw ?khgb1
    case hhgb1=>(intro w hSw;(have q:=(HN9.out.2.1.below hSw).z_;have q0:=q.cell 0;have q1:=q.cell 1;have q2:=q.cell 2;have q3:=q.cell 3;have q4:=q.cell 4;have y:=(HN9.out.2.1.below hSw).y_;have y0:=y.cell 0;have y1:=y.cell 1;have y2:=y.cell 2;have y3:=y.cell 3;have y4:=y.cell 4;have d0:=(HN9.out.2.2.below hSw).cell 0;simp only[It.cells,nfY,gE0,gE1]at q0 q1 q2 q3 q4 y0 y1 y2 y3 y4 d0);go_simp;try (with_reducible rfl))
    go_simp;refine wpT (i:=2) (v:=?vhgb2) ?hhgb2 hSw ?khgb2
    case hhgb2=>(intro w hSw;(have q:=(HN9.out.2.1.below hSw).z_;have q0:=q.cell 0;have q1:=q.cell 1;have q2:=q.cell 2;have q3:=q.cell 3;have q4:=q.cell 4;have y:=(HN9.out.2.1.below hSw).y_;have y0:=y.cell 0;have y1:=y.cell 1;have y2:=y.cell 2;have y3:=y.cell 3;have y4:=y.cell 4;have d0:=(HN9.out.2.2.below hSw).cell 0;simp only[It.cells,nfY,gE0,gE1]at q0 q1 q2 q3 q4 y0 y1 y2 y3 y4 d0);go_simp;try (with_reducible rfl))
    go_simp;refine wpT (i:=3) (v:=?vhgb3) ?hhgb3 hSw ?khgb3
    case hhgb3=>(intro w hSw;(have q:=(HN9.out.2.1.below hSw).z_;have q0:=q.cell 0;have q1:=q.cell 1;have q2:=q.cell 2;have q3:=q.cell 3;have q4:=q.cell 4;have y:=(HN9.out.2.1.below hSw).y_;have y0:=y.cell 0;have y1:=y.cell 1;have y2:=y.cell 2;have y3:=y.cell 3;have y4:=y.cell 4;have d0:=(HN9.out.2.2.below hSw).cell 0;simp only[It.cells,nfY,gE0,gE1]at q0 q1 q2 q3 q4 y0 y1 y2 y3 y4 d0);go_simp;try (with_reducible rfl))
    go_simp;refine wpT (i:=4) (v:=?vhgb4) ?hhgb4 hSw ?khgb4
    case hhgb4=>(intro w hSw;(have q:=(HN9.out.2.1.below hSw).z_;have q0:=q.cell 0;have q1:=q.cell 1;have q2:=q.cell 2;have q3:=q.cell 3;have q4:=q.cell 4;have y:=(HN9.out.2.1.below hSw).y_;have y0:=y.cell 0;have y1:=y.cell 1;have y2:=y.cell 2;have y3:=y.cell 3;have y4:=y.cell 4;have d0:=(HN9.out.2.2.below hSw).cell 0;simp only[It.cells,nfY,gE0,gE1]at q0 q1 q2 q3 q4 y0 y1 y2 y3 y4 d0);go_simp;try (with_reducible rfl))
    go_simp;refine wpT (i:=5) (v:=?vhgb5) ?hhgb5 hSw ?khgb5
    case hhgb5=>(intro w hSw;(have q:=(HN9.out.2.1.below hSw).z_;have q0:=q.cell 0;have q1:=q.cell 1;have q2:=q.cell 2;have q3:=q.cell 3;have q4:=q.cell 4;have y:=(HN9.out.2.1.below hSw).y_;have y0:=y.cell 0;have y1:=y.cell 1;have y2:=y.cell 2;have y3:=y.cell 3;have y4:=y.cell 4;have d0:=(HN9.out.2.2.below hSw).cell 0;simp only[It.cells,nfY,gE0,gE1]at q0 q1 q2 q3 q4 y0 y1 y2 y3 y4 d0);go_simp;try (with_reducible rfl))
    go_simp;refine wpT (i:=6) (v:=?vhgb6) ?hhgb6 hSw ?khgb6
    case hhgb6=>(intro w hSw;(have q:=(HN9.out.2.1.below hSw).z_;have q0:=q.cell 0;have q1:=q.cell 1;have q2:=q.cell 2;have q3:=q.cell 3;have q4:=q.cell 4;have y:=(HN9.out.2.1.below hSw).y_;have y0:=y.cell 0;have y1:=y.cell 1;have y2:=y.cell 2;have y3:=y.cell 3;have y4:=y.cell 4;have d0:=(HN9.out.2.2.below hSw).cell 0;simp only[It.cells,nfY,gE0,gE1]at q0 q1 q2 q3 q4 y0 y1 y2 y3 y4 d0);go_simp;try (with_reducible rfl))
    go_simp;refine wpT (i:=7) (v:=?vhgb7) ?hhgb7 hSw ?khgb7
    case hhgb7=>(intro w hSw;(have q:=(HN9.out.2.1.below hSw).z_;have q0:=q.cell 0;have q1:=q.cell 1;have q2:=q.cell 2;have q3:=q.cell 3;have q4:=q.cell 4;have y:=(HN9.out.2.1.below hSw).y_;have y0:=y.cell 0;have y1:=y.cell 1;have y2:=y.cell 2;have y3:=y.cell 3;have y4:=y.cell 4;have d0:=(HN9.out.2.2.below hSw).cell 0;simp only[It.cells,nfY,gE0,gE1]at q0 q1 q2 q3 q4 y0 y1 y2 y3 y4 d0);go_simp;try (with_reducible rfl))
    go_simp;refine wpT (i:=8) (v:=?vhgb8) ?hhgb8 hSw ?khgb8
    case hhgb8=>(intro w hSw;(have q:=(HN9.out.2.1.below hSw).z_;have q0:=q.cell 0;have q1:=q.cell 1;have q2:=q.cell 2;have q3:=q.cell 3;have q4:=q.cell 4;have y:=(HN9.out.2.1.below hSw).y_;have y0:=y.cell 0;have y1:=y.cell 1;have y2:=y.cell 2;have y3:=y.cell 3;have y4:=y.cell 4;have d0:=(HN9.out.2.2.below hSw).cell 0;simp only[It.cells,nfY,gE0,gE1]at q0 q1 q2 q3 q4 y0 y1 y2 y3 y4 d0);go_simp;try (with_reducible rfl))
    go_simp;refine wpT (i:=9) (v:=?vhgb9) ?hhgb9 hSw ?khgb9
    case hhgb9=>(intro w hSw;(have q:=(HN9.out.2.1.below hSw).z_;have q0:=q.cell 0;have q1:=q.cell 1;have q2:=q.cell 2;have q3:=q.cell 3;have q4:=q.cell 4;have y:=(HN9.out.2.1.below hSw).y_;have y0:=y.cell 0;have y1:=y.cell 1;have y2:=y.cell 2;have y3:=y.cell 3;have y4:=y.cell 4;have d0:=(HN9.out.2.2.below hSw).cell 0;simp only[It.cells,nfY,gE0,gE1]at q0 q1 q2 q3 q4 y0 y1 y2 y3 y4 d0);go_simp;try (with_reducible rfl))
    go_simp;refine wpT (i:=10) (v:=?vhgb10) ?hhgb10 hSw ?khgb10
    case hhgb10=>(intro w hSw;(have q:=(HN9.out.2.1.below hSw).z_;have q0:=q.cell 0;have q1:=q.cell 1;have q2:=q.cell 2;have q3:=q.cell 3;have q4:=q.cell 4;have y:=(HN9.out.2.1.below hSw).y_;have y0:=y.cell 0;have y1:=y.cell 1;have y2:=y.cell 2;have y3:=y.cell 3;have y4:=y.cell 4;have d0:=(HN9.out.2.2.below hSw).cell 0;simp only[It.cells,nfY,gE0,gE1]at q0 q1 q2 q3 q4 y0 y1 y2 y3 y4 d0);go_simp;try (with_reducible rfl))
    go_simp;refine wpT (i:=11) (v:=?vhgb11) ?hhgb11 hSw ?khgb11
    case hhgb11=>(intro w hSw;(have q:=(HN9.out.2.1.below hSw).z_;have q0:=q.cell 0;have q1:=q.cell 1;have q2:=q.cell 2;have q3:=q.cell 3;have q4:=q.cell 4;have y:=(HN9.out.2.1.below hSw).y_;have y0:=y.cell 0;have y1:=y.cell 1;have y2:=y.cell 2;have y3:=y.cell 3;have y4:=y.cell 4;have d0:=(HN9.out.2.2.below hSw).cell 0;simp only[It.cells,nfY,gE0,gE1]at q0 q1 q2 q3 q4 y0 y1 y2 y3 y4 d0);go_simp;try (with_reducible rfl))
    go_simp;refine wpT (i:=13) (v:=?vhgb13) ?hhgb13 hSw ?khgb13
    case hhgb13=>(intro w hSw;(have q:=(HN9.out.2.1.below hSw).z_;have q0:=q.cell 0;have q1:=q.cell 1;have q2:=q.cell 2;have q3:=q.cell 3;have q4:=q.cell 4;have y:=(HN9.out.2.1.below hSw).y_;have y0:=y.cell 0;have y1:=y.cell 1;have y2:=y.cell 2;have y3:=y.cell 3;have y4:=y.cell 4;have d0:=(HN9.out.2.2.below hSw).cell 0;simp only[It.cells,nfY,gE0,gE1]at q0 q1 q2 q3 q4 y0 y1 y2 y3 y4 d0);go_simp;try (with_reducible rfl))
    go_simp;refine wpT (i:=14) (v:=?vhgb14) ?hhgb14 hSw ?khgb14
    case hhgb14=>(intro w hSw;(have q:=(HN9.out.2.1.below hSw).z_;have q0:=q.cell 0;have q1:=q.cell 1;have q2:=q.cell 2;have q3:=q.cell 3;have q4:=q.cell 4;have y:=(HN9.out.2.1.below hSw).y_;have y0:=y.cell 0;have y1:=y.cell 1;have y2:=y.cell 2;have y3:=y.cell 3;have y4:=y.cell 4;have d0:=(HN9.out.2.2.below hSw).cell 0;simp only[It.cells,nfY,gE0,gE1]at q0 q1 q2 q3 q4 y0 y1 y2 y3 y4 d0);go_simp;try (with_reducible rfl))
    go_simp;refine wpAnyH_ready (rs:=[12,15]) (by kernel_rfl) (by simp) ?_;refine AllReadyH.cons rfl (fun K hK=>?_) (AllReadyH.cons rfl (fun K hK=>?_) AllReadyH.nil)
    ·go_simp
     with_reducible refine(HST.out _ hSw).mono ?_
     rintro e w8 ⟨A8,c8,rfl,hr8,hb8⟩;go_simp;refine hK.out _ _ (az hSw hb8) (fun hSn=>?_);clear hK K hSw;have hSw:=hSn;clear hSn;go_simp;refine wpAnyH_ready (rs:=[15]) (by kernel_rfl) (by simp) ?_;refine AllReadyH.cons rfl (fun K hK=>?_) AllReadyH.nil
     ·go_simp
      refine hK.out _ _ (hSw.alloc hSw.size _) (fun hSn=>?_);clear hK K hSw;have hSw:=hSn;clear hSn;go_simp;refine wpAnyH_ready (rs:=[16]) (by kernel_rfl) (by simp) ?_;refine AllReadyH.cons rfl (fun K hK=>?_) AllReadyH.nil;go_simp
      first|refine(HEQ.out _ A8 c8 _ hr8 (((HRD.out w9).below hb8).up hb8.size)).mono ?_|with_reducible refine(HEQ.out _ _ _ _ ((hr8.alloc (Nat.le_refl _) _).up (by simp)) (HR2.out _)).mono ?_
      rintro e w11 ⟨rfl,hb11⟩;go_simp;refine hK.out _ _ (az hSw hb11) (fun hSn=>?_);clear hK K hSw;have hSw:=hSn;clear hSn;go_simp;refine wpT (i:=17) (v:=?vhgbaa17) ?hhgbaa17 hSw ?khgbaa17
      case hhgbaa17=>(intro w hSw;(have q:=(HN9.out.2.1.below hSw).z_;have q0:=q.cell 0;have q1:=q.cell 1;have q2:=q.cell 2;have q3:=q.cell 3;have q4:=q.cell 4;have y:=(HN9.out.2.1.below hSw).y_;have y0:=y.cell 0;have y1:=y.cell 1;have y2:=y.cell 2;have y3:=y.cell 3;have y4:=y.cell 4;have d0:=(HN9.out.2.2.below hSw).cell 0;simp only[It.cells,nfY,gE0,gE1]at q0 q1 q2 q3 q4 y0 y1 y2 y3 y4 d0);go_simp;try (with_reducible rfl))
      go_simp;refine wpT (i:=18) (v:=?vhgbaa18) ?hhgbaa18 hSw ?khgbaa18
      case hhgbaa18=>(intro w hSw;(have q:=(HN9.out.2.1.below hSw).z_;have q0:=q.cell 0;have q1:=q.cell 1;have q2:=q.cell 2;have q3:=q.cell 3;have q4:=q.cell 4;have y:=(HN9.out.2.1.below hSw).y_;have y0:=y.cell 0;have y1:=y.cell 1;have y2:=y.cell 2;have y3:=y.cell 3;have y4:=y.cell 4;have d0:=(HN9.out.2.2.below hSw).cell 0;simp only[It.cells,nfY,gE0,gE1]at q0 q1 q2 q3 q4 y0 y1 y2 y3 y4 d0);go_simp;try (with_reducible rfl))
      go_simp;refine wpAnyH_ready (rs:=[19]) (by kernel_rfl) (by simp) ?_;refine AllReadyH.cons rfl (fun K hK=>?_) AllReadyH.nil;go_simp
      with_reducible refine(HAW.out _ hSw).mono ?_
      rintro e w12 ⟨rfl,hb12⟩;go_simp;refine hK.out _ _ (az hSw hb12) (fun hSn=>?_);clear hK K hSw;have hSw:=hSn;clear hSn;go_simp;refine wpT (i:=20) (v:=?vhgbaa20) ?hhgbaa20 hSw ?khgbaa20
      case hhgbaa20=>(intro w hSw;(have q:=(HN9.out.2.1.below hSw).z_;have q0:=q.cell 0;have q1:=q.cell 1;have q2:=q.cell 2;have q3:=q.cell 3;have q4:=q.cell 4;have y:=(HN9.out.2.1.below hSw).y_;have y0:=y.cell 0;have y1:=y.cell 1;have y2:=y.cell 2;have y3:=y.cell 3;have y4:=y.cell 4;have d0:=(HN9.out.2.2.below hSw).cell 0;simp only[It.cells,nfY,gE0,gE1]at q0 q1 q2 q3 q4 y0 y1 y2 y3 y4 d0);go_simp;try (with_reducible rfl))
      go_simp;refine wpT (i:=21) (v:=?vhgbaa21) ?hhgbaa21 hSw ?khgbaa21
      case hhgbaa21=>(intro w hSw;(have q:=(HN9.out.2.1.below hSw).z_;have q0:=q.cell 0;have q1:=q.cell 1;have q2:=q.cell 2;have q3:=q.cell 3;have q4:=q.cell 4;have y:=(HN9.out.2.1.below hSw).y_;have y0:=y.cell 0;have y1:=y.cell 1;have y2:=y.cell 2;have y3:=y.cell 3;have y4:=y.cell 4;have d0:=(HN9.out.2.2.below hSw).cell 0;simp only[It.cells,nfY,gE0,gE1]at q0 q1 q2 q3 q4 y0 y1 y2 y3 y4 d0);go_simp;try (with_reducible rfl))
      go_simp;refine wpAnyH_done (by kernel_rfl) ?_ _;have hmeet:=hSw;clear hSw HN9 HST HEQ HR2 HRD HAW;go_wp2_with fail
      go_meet
      exact⟨rfl,hmeet⟩
    ·go_simp
     refine hK.out _ _ (hSw.alloc hSw.size _) (fun hSn=>?_);clear hK K hSw;have hSw:=hSn;clear hSn;go_simp;refine wpAnyH_ready (rs:=[12]) (by kernel_rfl) (by simp) ?_;refine AllReadyH.cons rfl (fun K hK=>?_) AllReadyH.nil
     ·go_simp
      with_reducible refine(HST.out _ hSw).mono ?_
      rintro e w8 ⟨A8,c8,rfl,hr8,hb8⟩;go_simp;refine hK.out _ _ (az hSw hb8) (fun hSn=>?_);clear hK K hSw;have hSw:=hSn;clear hSn;go_simp;refine wpAnyH_ready (rs:=[16]) (by kernel_rfl) (by simp) ?_;refine AllReadyH.cons rfl (fun K hK=>?_) AllReadyH.nil;go_simp
      first|refine(HEQ.out _ A8 c8 _ hr8 (((HRD.out w9).below hb8).up hb8.size)).mono ?_|with_reducible refine(HEQ.out _ _ _ _ ((hr8.alloc (Nat.le_refl _) _).up (by simp)) (HR2.out _)).mono ?_
      rintro e w11 ⟨rfl,hb11⟩;go_simp;refine hK.out _ _ (az hSw hb11) (fun hSn=>?_);clear hK K hSw;have hSw:=hSn;clear hSn;go_simp;refine wpT (i:=17) (v:=?vhgbba17) ?hhgbba17 hSw ?khgbba17
      case hhgbba17=>(intro w hSw;(have q:=(HN9.out.2.1.below hSw).z_;have q0:=q.cell 0;have q1:=q.cell 1;have q2:=q.cell 2;have q3:=q.cell 3;have q4:=q.cell 4;have y:=(HN9.out.2.1.below hSw).y_;have y0:=y.cell 0;have y1:=y.cell 1;have y2:=y.cell 2;have y3:=y.cell 3;have y4:=y.cell 4;have d0:=(HN9.out.2.2.below hSw).cell 0;simp only[It.cells,nfY,gE0,gE1]at q0 q1 q2 q3 q4 y0 y1 y2 y3 y4 d0);go_simp;try (with_reducible rfl))
      go_simp;refine wpT (i:=18) (v:=?vhgbba18) ?hhgbba18 hSw ?khgbba18
      case hhgbba18=>(intro w hSw;(have q:=(HN9.out.2.1.below hSw).z_;have q0:=q.cell 0;have q1:=q.cell 1;have q2:=q.cell 2;have q3:=q.cell 3;have q4:=q.cell 4;have y:=(HN9.out.2.1.below hSw).y_;have y0:=y.cell 0;have y1:=y.cell 1;have y2:=y.cell 2;have y3:=y.cell 3;have y4:=y.cell 4;have d0:=(HN9.out.2.2.below hSw).cell 0;simp only[It.cells,nfY,gE0,gE1]at q0 q1 q2 q3 q4 y0 y1 y2 y3 y4 d0);go_simp;try (with_reducible rfl))
      go_simp;refine wpAnyH_ready (rs:=[19]) (by kernel_rfl) (by simp) ?_;refine AllReadyH.cons rfl (fun K hK=>?_) AllReadyH.nil;go_simp
      with_reducible refine(HAW.out _ hSw).mono ?_
      rintro e w12 ⟨rfl,hb12⟩;go_simp;refine hK.out _ _ (az hSw hb12) (fun hSn=>?_);clear hK K hSw;have hSw:=hSn;clear hSn;go_simp;refine wpT (i:=20) (v:=?vhgbba20) ?hhgbba20 hSw ?khgbba20
      case hhgbba20=>(intro w hSw;(have q:=(HN9.out.2.1.below hSw).z_;have q0:=q.cell 0;have q1:=q.cell 1;have q2:=q.cell 2;have q3:=q.cell 3;have q4:=q.cell 4;have y:=(HN9.out.2.1.below hSw).y_;have y0:=y.cell 0;have y1:=y.cell 1;have y2:=y.cell 2;have y3:=y.cell 3;have y4:=y.cell 4;have d0:=(HN9.out.2.2.below hSw).cell 0;simp only[It.cells,nfY,gE0,gE1]at q0 q1 q2 q3 q4 y0 y1 y2 y3 y4 d0);go_simp;try (with_reducible rfl))
      go_simp;refine wpT (i:=21) (v:=?vhgbba21) ?hhgbba21 hSw ?khgbba21
      case hhgbba21=>(intro w hSw;(have q:=(HN9.out.2.1.below hSw).z_;have q0:=q.cell 0;have q1:=q.cell 1;have q2:=q.cell 2;have q3:=q.cell 3;have q4:=q.cell 4;have y:=(HN9.out.2.1.below hSw).y_;have y0:=y.cell 0;have y1:=y.cell 1;have y2:=y.cell 2;have y3:=y.cell 3;have y4:=y.cell 4;have d0:=(HN9.out.2.2.below hSw).cell 0;simp only[It.cells,nfY,gE0,gE1]at q0 q1 q2 q3 q4 y0 y1 y2 y3 y4 d0);go_simp;try (with_reducible rfl))
      go_simp;refine wpAnyH_done (by kernel_rfl) ?_ _;have hmeet:=hSw;clear hSw HN9 HST HEQ HR2 HRD HAW;go_wp2_with fail
      go_meet
      exact⟨rfl,hmeet⟩
   case rest=>
    obtain⟨rfl,hbe⟩:=hcut;have HZ:=Lib.hid (HN9.out.1.trans (hbe.mono HN9.out.1.size));clear hbe HST HEQ HRD HR2 HAW HN9;go_wp2;go_ret;exact⟨rfl,HZ.out⟩
end Go.Proofs.YthjdpplgfdihoaaGreatDoor
