/- Texts SkipD, SkipF, MemA, PlainMerge in one. No conditions. -/
import Derived.Test.YthjdpplgfdihoaaGreatDoorBunAO

set_option linter.unusedSimpArgs false
set_option linter.unusedVariables false
set_option maxRecDepth 100000
set_option maxHeartbeats 16000000
namespace Go.Proofs.YthjdpplgfdihoaaGreatDoor
section
open Go Go.RowKit Go.Lib
def It.zero:It:=⟨0,0,0,0,0⟩
theorem ty4 (w:World):Calls Tryz.prog 156 #[] w fun e w'=>∃L ns,e=.returned (.pointer (some ⟨L,0,none⟩))∧SkAt w' L ns∧its ns=[]∧Below w.heap.size w w'∧∀g∈skF L ns,w.heap.size≤g:=by
 have ht:=fun W=>xk2 It.zero 6 W (by omega) (by omega);unfold It.val at ht;have HT:=H_ ht;clear ht;go_enter Tryz.func156,Tryz.ntmps156;go_wp2_with fail;refine(HT.out _).mono ?_;rintro e w1 ⟨b,tb,rfl,h1,h2,h3,h4,h5,h6⟩;go_wp2;go_ret;have e1:=h1.alloc (.cells #[.pointer (some ⟨b,0,none⟩),.int .i64 0] 282);have e2:=h2.alloc (.cells #[.pointer (some ⟨b,0,none⟩),.int .i64 0] 282);have hs:=h6.size;have lb:=h1.lt;have lt:=h2.lt;refine⟨w1.heap.size,[⟨It.zero,b,tb,6,6⟩],rfl,⟨⟨fun n hn=>?_,fun i n hi=>?_,fun n hn=>?_,?_⟩,⟨_,[],rfl,rfl,BoxO.new _ _ _⟩,?_,fun n hn=>?_,bo_⟩,rfl,h6.alloc hs _,fun g hg=>?_⟩
 ·rw[c_.1 hn]
  exact e1
 ·cases i with
  |zero=>
   simp only[gE0,ax_]at hi;subst hi;exact⟨_,e2,rfl,fun l hl=>by rw[List.getElem?_replicate,if_pos hl];rfl⟩
  |succ i=>simp at hi
 ·rw[c_.1 hn]
  exact⟨x_ _,x_ _⟩
 ·simpa using h3
 ·simp
  omega
 ·rw[c_.1 hn]
  exact(by omega:1≤6)
 ·simp[skF]at hg
  omega
def ky2 (w:World) (L:Nat) (ns:List Nd) (R:List It) (e:Ending) (w':World):Prop:=∃bb ns',e=.returned (.tuple #[.bool bb,.int .i64 0])∧SkAt w' L ns'∧its ns'=R∧Chg (skF L ns) w w'∧∀g∈skF L ns',g∈skF L ns∨w.heap.size≤g
theorem yy2 {ns:List Nd} (h:∀n∈ns,1≤n.h) (p:Nat):nxb 0 (ns.drop p)=(ns[p]?).map (·.b):=by
 have e0:(ns.drop p)[0]?=ns[p]?:=by simp
 cases e:ns.drop p with
 |nil=>rw[e]at e0;rw[←e0];rfl
 |cons a r=>
  rw[e]at e0;have ha:a∈ns:=bS_ (by rw[e];simp:a∈ns.drop p);have:=h a ha;rw[←e0];unfold nxb nxt;have h0:decide (0 < a.h)=true:=decide_eq_true (by omega);simp[h0]
theorem Pred.insert {A R:List Nd} {n:Nd} {l q j:Nat} (h:Pred (A++R) l q j) (hq:q=A.length):Pred (A++n::R) l A.length j:=by
 subst hq;have e:∀i,i < A.length→(A++n::R)[i]?=(A++R)[i]?:=fun i hi=>by rw[J_ hi,J_ hi]
 exact⟨h.lt,by obtain⟨m,h1,h2⟩:=h.on;exact⟨m,(e j h.lt).trans h1,h2⟩,fun i m h1 h2 h3=>h.last i m h1 h2 ((e i h2).symm.trans h3)⟩
theorem lj5 (u0 u1 u2 u3 u4 u5:Value) {k:Nat} (hk:k < 6):∃u,[u0,u1,u2,u3,u4,u5][k]?=some u∧(k=0∧u=u0∨k=1∧u=u1∨k=2∧u=u2∨k=3∧u=u3∨k=4∧u=u4∨k=5∧u=u5):=by
 have e:k=0∨k=1∨k=2∨k=3∨k=4∨k=5:=by omega
 rcases e with rfl|rfl|rfl|rfl|rfl|rfl<;>simp
theorem wx4 (f:Nat→Value) {k:Nat} (hk:k < 6):[f 0,f 1,f 2,f 3,f 4,f 5][k]?=some (f k):=by
 have e:k=0∨k=1∨k=2∨k=3∨k=4∨k=5:=by omega
 rcases e with rfl|rfl|rfl|rfl|rfl|rfl<;>rfl
theorem kz5 {P S a oi v} (h:Hv P S a oi v:=by intro w hSw;skip;go_simp;try (with_reducible rfl)):Hv P S a oi v:=h
theorem kz6 {P S a oi v} (h:Hv P S a oi v:=by intro w hSw;(obtain⟨⟨y0,y1,y2,y3,y4⟩,x0,x1,x2,x3,x4⟩:=KC.out w hSw);go_simp;try (with_reducible rfl)):Hv P S a oi v:=h
theorem dk4 (L h:Nat) (ns:List Nd) (x:It) (w:World) (hs:SkAt w L ns) (hk:x.ok=true) (h1:1≤h) (h6:h≤6) (hnl:ns.length≤1000000):
  Calls Tryz.prog 170 #[.pointer (some ⟨L,0,none⟩),x.val,.int .i64 (h:Int)] w (ky2 w L ns (wput (its ns) x)):=by
 have hok:=fun W=>nk1 x W;simp only[hk]at hok;have hbf:=fun W (hW:Below w.heap.size w W)=>tz3 L (pos (its ns) x+1) ns x W (hs.below hW) rfl;have hlt:=hs.lt;unfold It.val at hok hbf;have hb1:(1:Int)≤(h:Int):=by omega
 have hb6:(h:Int)≤6:=by omega
 have hb2:((h:Int) < 1)=False:=eq_false (by omega);have hb7:(6 < (h:Int))=False:=eq_false (by omega);have hW1:=b_ w (.cells #[.int .i64 x.s,.int .i64 x.k,.int .u64 (x.t:Int),.int .u64 (x.v:Int),.int .i64 x.x] 36);have hbx:BoxO (w.alloc (.cells #[.int .i64 x.s,.int .i64 x.k,.int .u64 (x.t:Int),.int .u64 (x.v:Int),.int .i64 x.x] 36)) 36 w.heap.size x.cells:=BoxO.new w #[.int .i64 x.s,.int .i64 x.k,.int .u64 (x.t:Int),.int .u64 (x.v:Int),.int .i64 x.x] 36;generalize hV:w.alloc (.cells #[.int .i64 x.s,.int .i64 x.k,.int .u64 (x.t:Int),.int .u64 (x.v:Int),.int .i64 x.x] 36)=V at *;have b0:=hbx.cell 0;have b1:=hbx.cell 1;have b2:=hbx.cell 2;have b3:=hbx.cell 3;have b4:=hbx.cell 4;simp only[It.cells,gE0,gE1]at b0 b1 b2 b3 b4;have HOK:=H_ hok;have HBF:=H_ hbf;have HW1:=H_ hW1;have HBX:=H_ hbx;have HLT:=H_ hlt;clear hok hbf hbx hW1 hlt;unfold It.val;go_enter Tryz.func170,Tryz.ntmps170;go_wp2_with fail;refine(HOK.out _).mono ?_;rintro e w2 ⟨rfl,hb2⟩;have hbx2:=HBX.out.below hb2;have b0:=hbx2.cell 0;have b1:=hbx2.cell 1;have b2:=hbx2.cell 2;have b3:=hbx2.cell 3;have b4:=hbx2.cell 4;simp only[It.cells,gE0,gE1]at b0 b1 b2 b3 b4;have hW2:=HW1.out.trans (hb2.mono HW1.out.size);have HW2:=H_ hW2;have HBX2:=H_ hbx2;clear hb2 hbx2 hW2 HOK hV HW1 HBX;go_wp2_with fail;refine(HBF.out _ HW2.out).mono ?_;rintro e w3 ⟨J,hJ,rfl,hb3⟩;have hW3:=HW2.out.trans (hb3.mono HW2.out.size);have hbx3:=HBX2.out.below hb3;have hbo:=BoxO.new w3 #[.pointer none,.pointer none,.pointer none,.pointer none,.pointer none,.pointer none] 292;have hW4:=hW3.alloc hW3.size (.cells #[.pointer none,.pointer none,.pointer none,.pointer none,.pointer none,.pointer none] 292);have hbx4:=hbx3.alloc (.cells #[.pointer none,.pointer none,.pointer none,.pointer none,.pointer none,.pointer none] 292);generalize hU:w3.alloc (.cells #[.pointer none,.pointer none,.pointer none,.pointer none,.pointer none,.pointer none] 292)=U at *;have hcc:Chg [w3.heap.size] U ((((((U.setCell ⟨w3.heap.size,0,none⟩ (.pointer (some ⟨bk ns (J 0),0,none⟩))).setCell ⟨w3.heap.size,1,none⟩ (.pointer (some ⟨bk ns (J 1),0,none⟩))).setCell ⟨w3.heap.size,2,none⟩ (.pointer (some ⟨bk ns (J 2),0,none⟩))).setCell ⟨w3.heap.size,3,none⟩ (.pointer (some ⟨bk ns (J 3),0,none⟩))).setCell ⟨w3.heap.size,4,none⟩ (.pointer (some ⟨bk ns (J 4),0,none⟩))).setCell ⟨w3.heap.size,5,none⟩ (.pointer (some ⟨bk ns (J 5),0,none⟩))):=((((((Chg.refl _ U).setCell _ (.inl (by simp))).setCell _ (.inl (by simp))).setCell _ (.inl (by simp))).setCell _ (.inl (by simp))).setCell _ (.inl (by simp))).setCell _ (.inl (by simp));have hbs:=(((((hbo.store 0 (.pointer (some ⟨bk ns (J 0),0,none⟩))).store 1 (.pointer (some ⟨bk ns (J 1),0,none⟩))).store 2 (.pointer (some ⟨bk ns (J 2),0,none⟩))).store 3 (.pointer (some ⟨bk ns (J 3),0,none⟩))).store 4 (.pointer (some ⟨bk ns (J 4),0,none⟩))).store 5 (.pointer (some ⟨bk ns (J 5),0,none⟩));simp only[ak_,ac_]at hbs;have HP:=H_ hbs;have HCC:=H_ hcc;have o0:=hbo.c0;have o1:=hbo.c1;have o2:=hbo.c2;have o3:=hbo.c3;have o4:=hbo.c4;have o5:=hbo.c5;have f0:=hbo.free 0;have f1:=hbo.free 1;have f2:=hbo.free 2;have f3:=hbo.free 3;have f4:=hbo.free 4;have f5:=hbo.free 5;have hs4:=hs.below hW4;have hg8:∀g∈skF L ns,g∉[w3.heap.size]:=fun g hg=>by have:=HLT.out g hg;have:=hW3.size;simp;omega
 have hsY:=hs4.chg hcc hg8;have hbxY:=hbx4.chg hcc (by have:=hbx3.lt;simp;omega);have hWY:=hW4.trans (hcc.below hW4.size (fun g hg=>by rw[c_.1 hg];exact hW3.size));generalize hY:((((((U.setCell ⟨w3.heap.size,0,none⟩ (.pointer (some ⟨bk ns (J 0),0,none⟩))).setCell ⟨w3.heap.size,1,none⟩ (.pointer (some ⟨bk ns (J 1),0,none⟩))).setCell ⟨w3.heap.size,2,none⟩ (.pointer (some ⟨bk ns (J 2),0,none⟩))).setCell ⟨w3.heap.size,3,none⟩ (.pointer (some ⟨bk ns (J 3),0,none⟩))).setCell ⟨w3.heap.size,4,none⟩ (.pointer (some ⟨bk ns (J 4),0,none⟩))).setCell ⟨w3.heap.size,5,none⟩ (.pointer (some ⟨bk ns (J 5),0,none⟩)))=Y at *;have y0:=hbs.c0;obtain⟨n0,hn0,hn0h⟩:=(hJ 0 (by omega)).on;have hql:pos (its ns) x+1≤ns.length:=by
  obtain⟨hd,tl,hns,_⟩:=hs.head;have h1:=sj2 (its ns) x;have h2:(its ns).length+1=ns.length:=by rw[hns];simp[its]
  omega
 have hJ0:=(hJ 0 (by omega)).low hql hs.tall;obtain⟨n5,⟨nl,nf⟩,nc,nc6⟩:=hsY.core.look hn0 hn0h;rw[hJ0]at nl;rw[←zz3 hn0]at n5;have hnc:(0:Int) < (n0.c:Int):=by omega
 have hld:=cy1 n0.tb 0 _ Y nl (by have:=hsY.core.ptr 0 (J 0+1);rwa [hJ0]at this);obtain⟨be,hbe⟩:=n_ (nxb 0 (ns.drop (pos (its ns) x+1)));rw[←hbe]at hld;have HLD:=H_ hld;have HBE:=H_ hbe;have HSY:=H_ hsY;have HBXY:=H_ hbxY;have HWY:=H_ hWY;have HG8:=H_ hW3.size;have HBS:=H_ hbs;have HJ:=H_ hJ;clear hld hbe hsY hbxY hWY hbs hs4 hcc HP HCC hW4 hbx4 hbx3 hW3 hb3 hbo hn0 hn0h hJ0 nl nf hg8 hJ HW2 HBX2 HBF;simp only[pv];go_wp2_with fail;refine HLD.out.mono ?_;rintro e w5 ⟨rfl,rfl⟩;go_upto_region 5 with (fail)
 have hbe2:=HBE.out.trans (yy2 hs.tall _);have hil:∀n3,ns[pos (its ns) x+1]?=some n3→∃hp:pos (its ns) x < (its ns).length,(its ns)[pos (its ns) x]=n3.x:=fun n3 h3=>by
  have:=mq2 (ns:=ns) (pos (its ns) x);rw[h3]at this;obtain⟨a,b⟩:=G_.1 this;exact⟨a,b⟩
 have hin:ns[pos (its ns) x+1]?=none→¬pos (its ns) x < (its ns).length:=fun h3 h4=>by
  have:=mq2 (ns:=ns) (pos (its ns) x);rw[h3,j_ h4]at this
  cases this
 obtain⟨l,hl⟩:=n_ (its ns);have hrs:=hs.rises;rw[←hl]at hbe2 hil hin hrs;obtain⟨sm,hsm⟩:=n_ (l.any (fun y=>It.same y x));obtain⟨o3,ho3⟩:=n_ (ns[pos l x+1]?);rw[←ho3]at hbe2 hil hin;have HL:=H_ hl;have HO3:=H_ ho3;have HSM:=H_ hsm;have HIL:=H_ hil;have HIN:=H_ hin;have HRS:=H_ hrs;have HS:=H_ hs;subst hbe2;clear hl ho3 hsm hil hin hrs hs HLD hY
 go_cut [43] (fun c wx=>c=.bool sm∧Below w5.heap.size w5 wx)
 case first=>
  cases o3 with
  |none=>
   have hf:sm=false:=HSM.out.trans (aj2 HRS.out x (HIN.out rfl));simp only[cd_];refine wp_region_held_drew (S:=fun w'=>Below w5.heap.size w5 w') rfl (ak b0_) (fun hSw=>?_);refine w_v 0 hSw ?_ (k:=kz5);go_simp;refine w_v 1 hSw ?_ (k:=kz5);go_simp;refine w_v 2 hSw ?_ (k:=kz5);go_simp;refine wpT0 (i:=3) hSw ?_;go_simp;refine wpT0 (i:=4) hSw ?_;go_simp;refine wpT0 (i:=5) hSw ?_;go_simp;refine wpT0 (i:=6) hSw ?_;go_simp;refine wpT0 (i:=7) hSw ?_;go_simp;refine wpT0 (i:=8) hSw ?_;go_simp;refine w_v 9 hSw ?_ (k:=kz5);go_simp;refine wpAnyH_done (by kernel_rfl) ?_ _;go_wp2_with fail
   go_meet
   exact⟨by rw[hf],hSw⟩
  |some n3=>
   obtain⟨hp,hx3⟩:=HIL.out n3 rfl;have hss:=fun W=>zz1 n3.x x W;have hat:=wy2 HRS.out x hp;rw[hx3]at hat;simp only[hat,←HSM.out]at hss;have hnd:=HSY.out.core.node n3 (p_ (by rw[HL.out]at HO3;exact HO3.out.symm));generalize n3.x=y at *;have hkc:∀w',Below w5.heap.size w5 w'→(w'.cell? ⟨n3.b,0,none⟩=some (.int .i64 y.s)∧w'.cell? ⟨n3.b,1,none⟩=some (.int .i64 y.k)∧w'.cell? ⟨n3.b,2,none⟩=some (.int .u64 (y.t:Int))∧w'.cell? ⟨n3.b,3,none⟩=some (.int .u64 (y.v:Int))∧w'.cell? ⟨n3.b,4,none⟩=some (.int .i64 y.x))∧(w'.cell? ⟨w.heap.size,0,none⟩=some (.int .i64 x.s)∧w'.cell? ⟨w.heap.size,1,none⟩=some (.int .i64 x.k)∧w'.cell? ⟨w.heap.size,2,none⟩=some (.int .u64 (x.t:Int))∧w'.cell? ⟨w.heap.size,3,none⟩=some (.int .u64 (x.v:Int))∧w'.cell? ⟨w.heap.size,4,none⟩=some (.int .i64 x.x)):=fun w' hb=>by
    have e1:=hnd.below hb;have e2:=HBXY.out.below hb;exact⟨⟨e1.cell 0,e1.cell 1,e1.cell 2,e1.cell 3,e1.cell 4⟩,e2.cell 0,e2.cell 1,e2.cell 2,e2.cell 3,e2.cell 4⟩
   unfold It.val at hss;have HSS:=H_ hss;have KC:=H_ hkc;clear hss hkc hnd hat hx3 hp;simp only[aK_];refine wp_region_held_drew (S:=fun w'=>Below w5.heap.size w5 w') rfl (ak b0_) (fun hSw=>?_);refine w_v 0 hSw ?_ (k:=kz6);go_simp;refine w_v 1 hSw ?_ (k:=kz6);go_simp;refine w_v 2 hSw ?_ (k:=kz6);go_simp;refine w_v 3 hSw ?_ (k:=kz6);go_simp;refine w_v 4 hSw ?_ (k:=kz6);go_simp;refine w_v 5 hSw ?_ (k:=kz6);go_simp;refine w_v 6 hSw ?_ (k:=kz6);go_simp;refine w_v 7 hSw ?_ (k:=kz6);go_simp;refine w_r 8 fun K hK=>?_;go_simp
   with_reducible refine(HSS.out _).mono ?_
   rintro e w6 ⟨rfl,hb6⟩;go_simp;refine hK.out _ _ (hSw.trans (hb6.mono hSw.size)) ?_;clear hSw hK K;intro hSw;go_simp;refine w_v 9 hSw ?_ (k:=kz6);go_simp;refine wpAnyH_done (by kernel_rfl) ?_ _;go_wp2_with fail
   go_meet
   exact⟨rfl,hSw⟩
 case rest=>
  obtain⟨rfl,hb5⟩:=hcut;have hsc:=HSY.out.below hb5;have hbxc:=HBXY.out.below hb5;have hWc:=HWY.out.trans (hb5.mono HWY.out.size);have b0:=hbxc.cell 0;have b1:=hbxc.cell 1;have b2:=hbxc.cell 2;have b3:=hbxc.cell 3;have b4:=hbxc.cell 4;simp only[It.cells,gE0,gE1]at b0 b1 b2 b3 b4;have hbsc:=HBS.out.below hb5;clear HBE y0 n5 hb5 HSY HBXY HWY HBS
  cases sm with
  |true=>
   obtain⟨n3,rfl⟩:∃n3,o3=some n3:=by
    cases o3 with
    |none=>have:=HSM.out.trans (aj2 HRS.out x (HIN.out rfl));cases this
    |some n3=>exact⟨n3,rfl⟩
   obtain⟨hp,hx3⟩:=HIL.out n3 rfl;have hss:It.same l[pos l x] x=true:=(wy2 HRS.out x hp).trans HSM.out.symm;obtain⟨hbt,hpt⟩:=xj2 HRS.out x hp hss;rw[hx3]at hbt;have hn3:=HO3.out.symm;have hnd:=hsc.core.node n3 (p_ hn3);have hww:=fun W=>ak2 x n3.x W;obtain⟨y,hy⟩:=n_ n3.x;rw[←hy]at hww hnd hbt;have hkc:∀w',Below wc.heap.size wc w'→(w'.cell? ⟨n3.b,0,none⟩=some (.int .i64 y.s)∧w'.cell? ⟨n3.b,1,none⟩=some (.int .i64 y.k)∧w'.cell? ⟨n3.b,2,none⟩=some (.int .u64 (y.t:Int))∧w'.cell? ⟨n3.b,3,none⟩=some (.int .u64 (y.v:Int))∧w'.cell? ⟨n3.b,4,none⟩=some (.int .i64 y.x))∧(w'.cell? ⟨w.heap.size,0,none⟩=some (.int .i64 x.s)∧w'.cell? ⟨w.heap.size,1,none⟩=some (.int .i64 x.k)∧w'.cell? ⟨w.heap.size,2,none⟩=some (.int .u64 (x.t:Int))∧w'.cell? ⟨w.heap.size,3,none⟩=some (.int .u64 (x.v:Int))∧w'.cell? ⟨w.heap.size,4,none⟩=some (.int .i64 x.x)):=fun w' hb=>by
    have e1:=hnd.below hb;have e2:=hbxc.below hb;exact⟨⟨e1.cell 0,e1.cell 1,e1.cell 2,e1.cell 3,e1.cell 4⟩,e2.cell 0,e2.cell 1,e2.cell 2,e2.cell 3,e2.cell 4⟩
   unfold It.val at hww;obtain⟨wb,hwb⟩:=n_ (x.wins y);rw[←hwb]at hww hbt;have HWW:=H_ hww;have KC:=H_ hkc;have HN3:=H_ hn3;have HND:=H_ hnd;have HSC:=H_ hsc;have HBT:=H_ hbt;have HPT:=H_ hpt;have HWC:=H_ hWc;have HBXC:=H_ hbxc;have HY:=H_ hy;clear hww hkc hn3 hnd hsc hbt hpt hWc hbxc hy hbsc hss hx3 hp hwb b0 b1 b2 b3 b4;simp only[aK_];go_upto_region 6 with (fail)
   refine wp_region_held_drew (S:=fun w'=>Below wc.heap.size wc w') rfl (ak b0_) (fun hSw=>?_);refine w_v 0 hSw ?_ (k:=kz6);go_simp;refine w_v 1 hSw ?_ (k:=kz6);go_simp;refine w_v 2 hSw ?_ (k:=kz6);go_simp;refine w_v 3 hSw ?_ (k:=kz6);go_simp;refine w_v 4 hSw ?_ (k:=kz6);go_simp;refine w_r 5 fun K hK=>?_;go_simp
   with_reducible refine(HWW.out _).mono ?_
   rintro e w6 ⟨rfl,hb6⟩;go_simp;refine hK.out _ _ (hSw.trans (hb6.mono hSw.size)) ?_;clear hSw hK K;intro hSw;go_simp;refine w_v 6 hSw ?_ (k:=kz6);go_simp;refine wpAnyH_done (by kernel_rfl) ?_ _;have hsv:=hSw;clear hSw KC HWW;obtain⟨X,hXe⟩:=n_ w6;rw[←hXe]at hsv ⊢;clear hXe hb6;have hnd:=HND.out.below hsv;have hsx:=HSC.out.below hsv;have hbx:=HBXC.out.below hsv;have hWx:=HWC.out.trans (hsv.mono HWC.out.size)
   cases wb with
   |false=>
    have hR:wput l x=l:=by unfold wput;rw[if_pos];rw[HBT.out];rfl
    have HF:=H_ (show ky2 w L ns (wput l x) (.returned (.tuple #[.bool false,.int .i64 0])) X from ⟨false,ns,rfl,hsx,by rw[hR];exact HL.out.symm,Chg.of_below hWx _,fun g hg=>.inl hg⟩);clear hR hsx hbx hWx hnd hsv;go_wp2;go_ret2;rw[←HL.out];exact HF.out
   |true=>
    have e0:=hbx.cell 0;have e1:=hbx.cell 1;have e2:=hbx.cell 2;have e3:=hbx.cell 3;have e4:=hbx.cell 4;have d0:=hnd.cell 0;have d1:=hnd.cell 1;have d2:=hnd.cell 2;have d3:=hnd.cell 3;have d4:=hnd.cell 4;have q0:=hnd.free 0;have q1:=hnd.free 1;have q2:=hnd.free 2;have q3:=hnd.free 3;have q4:=hnd.free 4;have hst:=((((hnd.store 0 (.int .i64 x.s)).store 1 (.int .i64 x.k)).store 2 (.int .u64 (x.t:Int))).store 3 (.int .u64 (x.v:Int))).store 4 (.int .i64 x.x);simp only[It.cells,N_,y_,gE0,gE1,ak_,ac_]at e0 e1 e2 e3 e4 d0 d1 d2 d3 d4 hst;have hcg:Chg [n3.b] X (((((X.setCell ⟨n3.b,0,none⟩ (.int .i64 x.s)).setCell ⟨n3.b,1,none⟩ (.int .i64 x.k)).setCell ⟨n3.b,2,none⟩ (.int .u64 (x.t:Int))).setCell ⟨n3.b,3,none⟩ (.int .u64 (x.v:Int))).setCell ⟨n3.b,4,none⟩ (.int .i64 x.x)):=(((((Chg.refl _ X).setCell _ (.inl (by simp))).setCell _ (.inl (by simp))).setCell _ (.inl (by simp))).setCell _ (.inl (by simp))).setCell _ (.inl (by simp));have hR:wput l x=l.set (pos l x) x:=by
     unfold wput;rw[if_neg (by rw[HBT.out];simp)];exact HPT.out
    obtain⟨z1,z2,z3⟩:=hsx.setx (x:=x) (k:=pos l x) HN3.out (by rw[←HL.out,←HPT.out];exact qv1 HRS.out) hcg hst;rw[←HL.out,←hR]at z2;have hF:Chg (skF L ns) w _:=(Chg.of_below hWx (skF L ns)).trans hcg (fun g hg=>.inl (by
     rw[c_.1 hg];exact f_ _ (O_.2 ⟨n3,p_ HN3.out,by simp⟩)))
    have HF:=H_ (show ky2 w L ns (wput l x) (.returned (.tuple #[.bool true,.int .i64 0])) _ from ⟨true,_,rfl,z1,z2,hF,fun g hg=>.inl (by rw[z3]at hg;exact hg)⟩);clear hR hsx hbx hWx hnd hsv hst hcg z1 z2 z3 hF;go_wp2;go_ret2;rw[←HL.out];exact HF.out
  |false=>
   obtain⟨hbt,hpt⟩:=jx3 HRS.out x HSM.out.symm;have hql2:pos l x+1≤ns.length:=by rw[HL.out];exact hql
   have ht:=fun W=>xk2 x h W h1 h6;unfold It.val at ht;have HT:=H_ ht;have HSC:=H_ hsc;have HBT:=H_ hbt;have HPT:=H_ hpt;have HWC:=H_ hWc;have HBSC:=H_ hbsc;clear ht hsc hbt hpt hWc hbxc hbsc hql;go_wp2_with fail;refine(HT.out _).mono ?_;rintro e w6 ⟨b,tb,rfl,hb1',ht1,hne,hbs,hts,hb6⟩;obtain⟨A,hA⟩:=n_ (ns.take (pos l x+1));obtain⟨R,hR⟩:=n_ (ns.drop (pos l x+1));have hAR:A++R=ns:=by rw[hA,hR];exact aa_ _ _
   have hAl:A.length=pos l x+1:=by rw[hA,u_];omega
   have hlw:=HWC.out.size;have hfr:∀g∈skF L ns,g < w.heap.size:=HLT.out;have hnb:∀g,wc.heap.size≤g→g∉(A++R).flatMap fun n=>[n.b,n.tb]:=fun g hg hm=>by
    rw[hAR]at hm;have:=hfr g (f_ _ hm);omega
   have hc0:SkC w6 (A++(⟨x,b,tb,0,h⟩:Nd)::R):=SkC.insert (n:=⟨x,b,tb,0,h⟩) (by rw[hAR];exact HSC.out.core.below hb6) rfl h6 hb1' ht1 hne (hnb b hbs) (hnb tb hts);have hg8:=(HBSC.out.lt:w3.heap.size < wc.heap.size);have hbs6:=HBSC.out.below hb6;obtain⟨hd,tl,hns,hh6,hLb⟩:=HSC.out.head;have hLb6:=hLb.below hb6;have hW6:=HWC.out.trans (hb6.mono hlw);have hg8w:w.heap.size≤w3.heap.size:=HG8.out;obtain⟨F,hF⟩:=n_ (tb::ns.flatMap (fun n=>[n.b,n.tb]));have h8F:w3.heap.size∉F:=by
    rw[hF];intro hm
    rcases g_.1 hm with h2|h2
    ·omega
    ·have:=hfr _ (f_ _ h2)
     omega
   have hLF:L∉F:=by
    rw[hF];intro hm
    rcases g_.1 hm with h2|h2
    ·have:=hfr L m_
     omega
    ·exact HSC.out.out h2
   have HC0:=H_ hc0;have HB6:=H_ hbs6;have HAR:=H_ hAR;have HAL:=H_ hAl;have HNS:=H_ (d_ hns hh6);have HL6:=H_ hLb6;have HW6:=H_ hW6;have HF:=H_ hF;have H8F:=H_ h8F;have HLF:=H_ hLF;have HTS:=H_ (show w.heap.size≤tb∧w.heap.size≤b from ⟨by omega,by omega⟩);have HJ2:=H_ (show ∀k,k < 6→Pred ns k A.length (J k) from fun k hk=>by rw[hAl,HL.out];exact HJ.out k hk);clear hc0 hbs6 hAR hAl hns hh6 hLb6 hLb hW6 hA hR hb6 hlw hfr hnb hg8 hg8w hbs hts ht1 hb1' hne hF h8F hLF HJ HSC HBSC HWC HT;go_wp2_with fail
   go_loopw [60] (fun s wr=>∃k:Nat,k≤h∧s=.int .i64 (k:Int)∧Hid (SkC wr (A++(⟨x,b,tb,k,h⟩:Nd)::R)∧Chg F w6 wr)) (fun s _=>h - (intOf s).toNat)
   case atStart=>exact⟨0,t_ _,rfl,H_ ⟨HC0.out,Chg.refl _ _⟩⟩
   case round=>
    obtain⟨k,hk',rfl,HK⟩:=hrel
    by_cases hkh:k < h
    ·have hki:(k:Int) < (h:Int):=by omega
     have hk6:k < 6:=by omega
     have hk6i:(k:Int) < 6:=by omega
     have hwk:IntKind.i64.wrap (k:Int)=(k:Int):=F_ _ (by omega);obtain⟨p,hp,hph⟩:=(HJ2.out k hk6).on;have hbk:bk ns (J k)=p.b:=zz3 hp;have hpj:(A++(⟨x,b,tb,k,h⟩:Nd)::R)[J k]?=some p:=by
      have h2:=(HJ2.out k hk6).lt;rw[←HAR.out,J_ h2]at hp;rw[J_ h2];exact hp
     have hnj:(A++(⟨x,b,tb,k,h⟩:Nd)::R)[A.length]?=some ⟨x,b,tb,k,h⟩:=by simp
     have hsk:=HK.out.1;have hskd:SkC wr.drew (A++(⟨x,b,tb,k,h⟩:Nd)::R):=hsk.chg (F:=[]) (Chg.refl _ wr).drew (fun _ _=>by simp);obtain⟨p5,⟨pl,pf⟩,pc,pc6⟩:=hskd.look hpj hph;have hnb:=hskd.node _ (p_ hnj);have n5:=hnb.cell 5;simp only[It.cells,N_,y_,gE0,gE1]at n5;obtain⟨cs,t1,t2,_⟩:=hskd.tower _ _ hnj;have tk:=t1.cell k;rw[j_ (by simp only at t2;omega)]at tk;have tf:=t1.free k;have g8:=(HB6.out.chg HK.out.2 H8F.out).drew;have g8k:wr.drew.cell? ⟨w3.heap.size,k,none⟩=some (.pointer (some ⟨p.b,0,none⟩)):=by
      rw[g8.cell,wx4 (fun l=>Value.pointer (some ⟨bk ns (J l),0,none⟩)) hk6,hbk]
     have hap:=nw1 _ _ _ _ _ hskd.apart hpj hnj;have hpt:p.tb≠tb:=fun e=>by
      have:=hap.2.1 e;have:=(HJ2.out k hk6).lt;omega
     have hr:=hskd.raise (l:=k) rfl hkh ((HAR.out▸HJ2.out k hk6:Pred (A++R) k A.length (J k)).insert rfl) hpj;have hld:=cy1 p.tb k _ wr.drew pl (hskd.ptr k _);generalize hv:(nxb k ((A++(⟨x,b,tb,k,h⟩:Nd)::R).drop (J k+1))).map (fun b=>(⟨b,0,none⟩:Addr))=v at *;have hnv:tk3 wr.drew v:=by rw[←hv];exact hskd.ptr k _
     have hs1:=yx1 tb k _ v wr.drew tk tf hnv;have hc1:=uw wr.drew ⟨tb,k,none⟩ (.pointer v);have htb8:w3.heap.size∉[tb]:=fun e=>H8F.out (by rw[c_.1 e,HF.out];simp);have g8k2:(wr.drew.setCell ⟨tb,k,none⟩ (.pointer v)).cell? ⟨w3.heap.size,k,none⟩=some (.pointer (some ⟨p.b,0,none⟩)):=by
      rw[(g8.chg hc1 htb8).cell,wx4 (fun l=>Value.pointer (some ⟨bk ns (J l),0,none⟩)) hk6,hbk]
     have hpn:p.b∉[tb]:=fun e=>hap.2.2 (c_.1 e);have p52:=((hskd.node p (p_ hpj)).chg hc1 hpn).cell 5;simp only[It.cells,N_,y_,gE0,gE1]at p52;obtain⟨cp,u1,u2,_⟩:=hskd.tower _ _ hpj;have u3:=u1.chg hc1 (fun e=>hpt (c_.1 e));have uk:=u3.cell k;rw[j_ (by omega)]at uk;have uf:=u3.free k;have hbn:b∉[tb]:=fun e=>(nw1 _ _ _ _ _ hskd.apart hnj hnj).2.2 (c_.1 e);have hs2:=yx1 p.tb k _ (some ⟨b,0,none⟩) _ uk uf ⟨b,_,rfl,hnb.chg hc1 hbn,rfl⟩;have hpc:(k:Int) < (p.c:Int):=by omega
     have hcF:Chg F w6 ((wr.drew.setCell ⟨tb,k,none⟩ (.pointer v)).setCell ⟨p.tb,k,none⟩ (.pointer (some ⟨b,0,none⟩))):=(HK.out.2.drew.setCell _ (.inl (by rw[HF.out];simp))).setCell _ (.inl (by rw[HF.out];exact f_ _ (O_.2 ⟨p,p_ hp,by simp⟩)));have HLD:=H_ hld;have HS1:=H_ hs1;have HS2:=H_ hs2;have HR2:=H_ (d_ hr hcF);have q5:wr.cell? ⟨b,5,none⟩=_:=n5;have g8k3:(wr.setCell ⟨tb,k,none⟩ (.pointer v)).cell? ⟨w3.heap.size,k,none⟩=_:=g8k2;have p53:(wr.setCell ⟨tb,k,none⟩ (.pointer v)).cell? ⟨p.b,5,none⟩=_:=p52;have q8:wr.cell? ⟨w3.heap.size,k,none⟩=_:=g8k;have qp:wr.cell? ⟨p.b,5,none⟩=_:=p5;clear hld hs1 hs2 hr hcF hsk hskd hnb t1 t2 tk tf g8 hap hpt hnv hc1 htb8 hpn u1 u2 u3 uk uf hbn pl pf pc6 hv HK hpj hnj hp hbk;go_wp2_with fail
     go_region_with (first
      |(go_at_call 239;refine HLD.out.mono ?_;rintro e w7 ⟨rfl,rfl⟩)
      |(go_at_call 240;refine HS1.out.mono ?_;rintro e w8 ⟨rfl,rfl⟩))
     all_goals
      go_wp2_with fail;refine HS2.out.mono ?_;rintro e w9 ⟨rfl,rfl⟩;go_wp2;go_roundw
      case rel=>exact⟨k+1,by omega,by go_num,H_ HR2.out⟩
      case measure=>simp[intOf];omega
    ·have hkk:k=h:=by omega
     subst hkk;have hki:((k:Int) < (k:Int))=False:=eq_false (by omega);have hcx:=HK.out.2;have hl1:=HL6.out.chg hcx HLF.out;have g0:=hl1.c0;have g1:=hl1.c1;have z0:=hl1.free 1;have htl:tl.length < 1000000:=by have:=HNS.out.1;rw[this,r_]at hnl;omega
     have hwt:IntKind.i64.wrap ((tl.length:Int)+1)=((tl.length+1:Nat):Int):=by rw[F_ _ (by omega)];omega
     have hst:=hl1.store 1 (.int .i64 ((tl.length+1:Nat):Int));have hcl:=uw wr ⟨L,1,none⟩ (.int .i64 ((tl.length+1:Nat):Int));simp only[ak_,ac_]at hst hcl;have hLn:∀g∈(A++(⟨x,b,tb,k,k⟩:Nd)::R).flatMap (fun n=>[n.b,n.tb]),g∈ns.flatMap (fun n=>[n.b,n.tb])∨g=b∨g=tb:=fun g hg=>by
      rw[←HAR.out];obtain⟨m,hm,hg⟩:=O_.1 hg
      rcases q_.1 hm with h2|h2
      ·exact .inl (O_.2 ⟨m,s_ _ h2,hg⟩)
      ·rcases g_.1 h2 with rfl|h2
       ·right;simpa using hg
       ·exact .inl (O_.2 ⟨m,k_ _ h2,hg⟩)
     have hLo:L∉(A++(⟨x,b,tb,k,k⟩:Nd)::R).flatMap (fun n=>[n.b,n.tb]):=fun hm=>by
      have h3:=HLT.out L m_;have h4:=HTS.out
      rcases hLn L hm with h2|h2|h2
      ·exact HS.out.out h2
      ·omega
      ·omega
     have hcr:=HK.out.1.chg hcl (fun g hg e=>hLo (by rw[←c_.1 e];exact hg));have hA0:A=hd::tl.take (pos l x):=by
      have h2:=HAL.out;have h3:=HAR.out;rw[HNS.out.1]at h3
      cases A with
      |nil=>simp at h2
      |cons a A=>
       simp only[N_,List.cons.injEq]at h3;simp only[r_,Nat.add_right_cancel_iff]at h2;rw[←h3.2,←h2,cf_,h3.1]
     have hits:its (A++(⟨x,b,tb,k,k⟩:Nd)::R)=put l x:=by
      rw[ow3 (by rw[HAL.out];omega),HAR.out,HAL.out,←HL.out,HPT.out];rfl
     have hat:SkAt (wr.setCell ⟨L,1,none⟩ (.int .i64 ((tl.length+1:Nat):Int))) L (A++(⟨x,b,tb,k,k⟩:Nd)::R):=by
      refine⟨hcr,⟨hd,tl.take (pos l x)++(⟨x,b,tb,k,k⟩:Nd)::R,by rw[hA0];rfl,HNS.out.2,?_⟩,hLo,fun m hm=>?_,by rw[hits];exact qv1 HRS.out⟩
      ·have h2:(tl.take (pos l x)++(⟨x,b,tb,k,k⟩:Nd)::R).length=tl.length+1:=by
        have h3:=congrArg List.length HAR.out;rw[hA0,HNS.out.1]at h3;simp only[e_,r_,N_]at h3 ⊢;omega
       rw[h2];exact hst
      ·rcases q_.1 hm with h2|h2
       ·exact HS.out.tall m (by rw[←HAR.out];exact s_ _ h2)
       ·rcases g_.1 h2 with rfl|h2
        ·exact h1
        ·exact HS.out.tall m (by rw[←HAR.out];exact k_ _ h2)
     have hR:wput l x=put l x:=by unfold wput;rw[if_neg (by rw[HBT.out];simp)]
     have hcz:Chg (skF L ns) w (wr.setCell ⟨L,1,none⟩ (.int .i64 ((tl.length+1:Nat):Int))):=by
      refine((Chg.of_below HW6.out (skF L ns)).trans hcx (fun g hg=>?_)).trans hcl (fun g hg=>.inl (by rw[c_.1 hg];exact m_));rw[HF.out]at hg
      rcases g_.1 hg with rfl|hg
      ·exact .inr HTS.out.1
      ·exact .inl (f_ _ hg)
     have HFI:=H_ (show ky2 w L ns (wput l x) (.returned (.tuple #[.bool true,.int .i64 0])) (wr.setCell ⟨L,1,none⟩ (.int .i64 ((tl.length+1:Nat):Int))) from ⟨true,_,rfl,hat,by rw[hR];exact hits,hcz,fun g hg=>by
      rcases g_.1 hg with rfl|hg
      ·exact .inl m_
      ·rcases hLn g hg with h2|h2|h2
       ·exact .inl (f_ _ h2)
       ·exact .inr (by rw[h2];exact HTS.out.2)
       ·exact .inr (by rw[h2];exact HTS.out.1)⟩)
     clear hst hcl hLn hLo hcr hA0 hits hat hR hcz hl1 hcx;go_wp2;go_ret2;rw[←HL.out];exact HFI.out
end
section
open Go Go.RowKit Go.Lib
def slLen:Value→Nat
 |.slice _ n _=>n
 |_=>0
theorem lx2 {w:World} {L:Nat} {ns:List Nd} (h:SkAt w L ns):(its ns).length+1=ns.length:=by
 obtain⟨hd,tl,hns,_⟩:=h.head;rw[hns];simp[its]
theorem ok3 (L:Nat) (ns:List Nd) (w:World) (hs:SkAt w L ns) (hn:ns.length≤1000000):
  Calls Tryz.prog 259 #[.pointer (some ⟨L,0,none⟩),.int .i64 1] w (mv1 w (its ns)):=by
 obtain⟨i0,hi0,hz0,hz1,hz2⟩:=info_parts rq;obtain⟨hd,tl,hns,h6,hL⟩:=hs.head;have l0:=hL.c0;have hhd:ns[0]?=some hd:=by rw[hns];rfl
 have hnl:=lx2 hs;have hc0:hd.h > 0:=by omega
 obtain⟨n5,⟨nl,nf⟩,nc,nc6⟩:=hs.core.look hhd hc0;have hnc:(0:Int) < (hd.c:Int):=by omega
 have hw0:IntKind.i64.wrap 0=0:=by decide
 have hld:=cy1 hd.tb 0 _ w nl (hs.core.ptr 0 1);rw[yy2 hs.tall]at hld;obtain⟨l,hl⟩:=n_ (its ns);have hget:∀k n,ns[k+1]?=some n→k < l.length∧l[k]?=some n.x:=fun k n h=>by
  have:=mq2 (ns:=ns) k;rw[h,←hl]at this;exact⟨(G_.1 this).1,this⟩
 rw[←hl]at hnl;have HLD:=H_ hld;have HL:=H_ hl;have HG:=H_ hget;have HS:=H_ hs;clear hld hl hget hs hns h6 hL hhd nl nf nc nc6;rw[←HL.out];go_enter Tryz.func259,Tryz.ntmps259;go_wp2_with fail;refine HLD.out.mono ?_;rintro e w1 ⟨rfl,hw1⟩;subst hw1;go_wp2_with fail
 go_loopw [5,6] (fun s p wr=>∃(k:Nat) (A2:Option Addr) (c2:Nat),k≤l.length∧s=.slice A2 k c2∧p=.pointer ((ns[k+1]?).map fun n=>⟨n.b,0,none⟩)∧Hid (wr.ownsRow w1.heap.size 36 5 (.slice A2 k c2) k (itc (l.take k)))∧Below w1.heap.size w1 wr) (fun s _ _=>l.length - slLen s)
 case atStart=>exact⟨0,none,0,t_ _,rfl,rfl,H_ (E_ _ _ _ _),Below.refl _ _⟩
 case round=>
  obtain⟨k,A2,c2,hk,rfl,rfl,HQ,hbl⟩:=hrel
  cases hn3:ns[k+1]? with
  |none=>
   have hall:k=l.length:=by
    have:=List.getElem?_eq_none_iff.1 hn3;omega
   have hq:=HQ.out;rw[hall,List.take_length]at hq;obtain⟨A3,c3,hv,hqc,hqm,hlow⟩:=dw hq;injection hv with e1 e2 e3;subst e1 e3;have hits:Its w1.heap.size wr A2 l.length c2 l:=⟨Row.own hq,hqc,hqm,fun p hp=>(hlow p hp).1⟩;have HFF:=H_ hits;clear hits hq hlow hqc hqm HQ;subst hall;simp only[cd_];go_wp2;go_ret;exact⟨A2,_,c2,rfl,rfl,HFF.out,hbl⟩
  |some n3=>
   obtain⟨hkl,hlk⟩:=HG.out k n3 hn3;have hsr:=HS.out.below hbl;have hnd:=hsr.core.node n3 (p_ hn3);have d0:=hnd.cell 0;have d1:=hnd.cell 1;have d2:=hnd.cell 2;have d3:=hnd.cell 3;have d4:=hnd.cell 4;simp only[It.cells,N_,y_,gE0,gE1]at d0 d1 d2 d3 d4;have hdx:itc (l.take k)++n3.x.cells=itc (l.take (k+1)):=by
    rw[List.take_add_one,hlk,qw];simp[itc]
   have h3h:0 < n3.h:=HS.out.tall n3 (p_ hn3);generalize hx3:n3.x=x at *;have hvb:BoxO (wr.alloc (.cells #[.int .i64 x.s,.int .i64 x.k,.int .u64 (x.t:Int),.int .u64 (x.v:Int),.int .i64 x.x] 36)) 36 wr.heap.size x.cells:=BoxO.new wr #[.int .i64 x.s,.int .i64 x.k,.int .u64 (x.t:Int),.int .u64 (x.v:Int),.int .i64 x.x] 36;have hbA:=b_ wr (.cells #[.int .i64 x.s,.int .i64 x.k,.int .u64 (x.t:Int),.int .u64 (x.v:Int),.int .i64 x.x] 36);have ho4:=own_below HQ.out hbA;have hb4:=az hbl hbA;have HR:=H_ (lx1 hvb);have HO:=H_ ho4;have HB:=H_ hb4;have HX:=H_ hdx;have HN:=H_ (d_ hn3 h3h);clear hvb hbA ho4 hb4 HQ hdx hsr hnd hlk hn3 h3h hx3;simp only[aK_];go_wp2_with (at_builtin;refine iy ?_);refine gz (jq rfl (.tmp 34) (.tmp 39) _ rfl w1.heap.size 36 i0 _ 5 40 Tryz.underlying31 hi0 hz0 hz1 hz2 rfl (by omega) w1 HB.out HB.out.size _ k (itc (l.take k)) rfl HO.out (wr.alloc (.cells #[.int .i64 x.s,.int .i64 x.k,.int .u64 (x.t:Int),.int .u64 (x.v:Int),.int .i64 x.x] 36)).heap.size _ 1 1 x.cells rfl HR.out (fun v hv=>xq [x] v (by simpa [itc] using hv)) (k+1) _ rfl HX.out (by unfold maxLen;omega) (by omega) ?_);intro A3 c3 w5 h1 h2 h3 h4 h5;have hsr:=HS.out.below h2;obtain⟨m5,⟨ml,mf⟩,mc,mc6⟩:=hsr.core.look HN.out.1 HN.out.2;have hmc:(0:Int) < (n3.c:Int):=by omega
   have hld:=cy1 n3.tb 0 _ w5 ml (hsr.core.ptr 0 _);rw[yy2 HS.out.tall,Option.map_map]at hld;have HLD2:=H_ hld;have H5:=H_ h1;clear h1 h3 HX HR HO HB hld ml mf hsr d0 d1 d2 d3 d4;go_wp2_with fail;refine HLD2.out.mono ?_;rintro e w7 ⟨rfl,hw7⟩;subst hw7;go_wp2;go_roundw
   case rel=>exact⟨k+1,A3,c3,by omega,rfl,rfl,H5,h2⟩
   case measure=>simp[slLen];omega
theorem qy4 (L:Nat) (ns:List Nd) (w:World) (hs:SkAt w L ns) (hn:ns.length≤1000000):
  Calls Tryz.prog 211 #[.pointer (some ⟨L,0,none⟩)] w (mv1 w (its ns)):=by
 have HL:=H_ (ok3 L ns w hs hn);go_enter Tryz.func211,Tryz.ntmps211;go_wp2_with fail;refine HL.out.mono ?_;rintro e w1 ⟨A',k,c',rfl,h1,h2,h3⟩;subst h1;go_wp2;go_ret;exact⟨A',_,c',rfl,rfl,h2,h3⟩
theorem lv4 (L:Nat) (ns:List Nd) (w:World) (hs:SkAt w L ns):
  Calls Tryz.prog 172 #[.pointer (some ⟨L,0,none⟩)] w fun e w'=>e=.returned (.int .i64 ((its ns).length:Int))∧w'=w:=by
 obtain⟨hd,tl,hns,h6,hL⟩:=hs.head;have hl:=lx2 hs;have l1:=hL.c1;have e:tl.length=(its ns).length:=by rw[hns]at hl ⊢;simp at hl;omega
 rw[e]at l1;clear hl e hns;go_enter Tryz.func172,Tryz.ntmps172;go_wp2;go_ret;exact⟨rfl,rfl⟩
end
section
open Go Go.RowKit Go.Lib
structure MmAt (w:World) (m L:Nat) (ns:List Nd):Prop where
 box:∃sz:Int,BoxO w 228 m [.pointer (some ⟨L,0,none⟩),.int .u32 0,.int .i32 0,.int .u32 0,.bool false,.int .i64 sz]
 sk:SkAt w L ns
 out:m∉skF L ns
variable {w w':World} {m L:Nat} {ns:List Nd}
theorem MmAt.chg {F:List Nat} (h:MmAt w m L ns) (c:Chg F w w') (hF:∀g∈m::skF L ns,g∉F):MmAt w' m L ns:=
 ⟨let ⟨sz,a⟩:=h.box;⟨sz,a.chg c (hF m m_)⟩,h.sk.chg c (fun g hg=>hF g (f_ _ hg)),h.out⟩
theorem MmAt.below (h:MmAt w m L ns) (c:Below w.heap.size w w'):MmAt w' m L ns:=h.chg (Chg.of_below c []) (fun _ _=>by simp)
theorem vz2 (w:World):Calls Tryz.prog 80 #[] w fun e w'=>∃m L ns,e=.returned (.pointer (some ⟨m,0,none⟩))∧MmAt w' m L ns∧its ns=[]∧Below w.heap.size w w'∧∀g∈m::skF L ns,w.heap.size≤g:=by
 have HN:=H_ (ty4 w);go_enter Tryz.func80,Tryz.ntmps80;go_wp2_with fail;refine HN.out.mono ?_;rintro e w1 ⟨L,ns,rfl,h1,h2,h3,h4⟩;have HF:=H_ (d_ h1 (d_ h2 (d_ h3 h4)));clear h1 h2 h3 h4 HN;go_wp2;go_ret;obtain⟨h1,h2,h3,h4⟩:=HF.out;have hs:=h3.size;refine⟨w1.heap.size,L,ns,rfl,⟨⟨0,BoxO.new _ _ _⟩,h1.below (b_ _ _),fun hm=>?_⟩,h2,h3.alloc hs _,fun g hg=>?_⟩
 ·have:=h1.lt _ hm
  omega
 ·rcases g_.1 hg with rfl|hg
  ·exact hs
  ·exact h4 g hg
theorem cz3 (h:MmAt w m L ns) (hn:ns.length≤1000000):Calls Tryz.prog 132 #[.pointer (some ⟨m,0,none⟩)] w (mv1 w (its ns)):=by
 obtain⟨sz,hb⟩:=h.box;have c0:=hb.c0;have HL:=H_ (qy4 L ns w h.sk hn);clear hb h;go_enter Tryz.func132,Tryz.ntmps132;go_wp2_with fail;refine HL.out.mono ?_;rintro e w1 ⟨A',k,c',rfl,h1,h2,h3⟩;subst h1;go_wp2;go_ret;exact⟨A',_,c',rfl,rfl,h2,h3⟩
theorem height_any (x:It) (hk:x.ok=true) (w:World):Calls Tryz.prog 171 #[x.val] w fun e w'=>∃k:Nat,1≤k∧k≤6∧e=.returned (.int .i64 (k:Int))∧Below w.heap.size w w':=by
 have hky:=fun W=>wx3 x hk W;have hW:=b_ w (.cells #[.int .i64 x.s,.int .i64 x.k,.int .u64 (x.t:Int),.int .u64 (x.v:Int),.int .i64 x.x] 36);unfold It.val at *;have HKY:=H_ hky;have HW:=H_ hW;clear hky hW;go_enter Tryz.func171,Tryz.ntmps171;go_wp2_with fail;refine(HKY.out _).mono ?_;rintro e w1 ⟨A',c',rfl,hr,h1,h2,h3⟩;have hb:=az HW.out h3;have HH:=H_ (lw3 A' 10 c' x.key w1 (by omega) hr);clear hr h3 HW HKY;go_wp2_with fail;refine HH.out.mono ?_;rintro e w2 ⟨rfl,rfl⟩;generalize (Fnv.hash x.key).toNat=hv;clear HH;go_wp2_with fail
 go_loopw [3,4] (fun n h wr=>∃k hv:Nat,1≤k∧k≤6∧n=.int .i64 (k:Int)∧h=.int .u64 (hv:Int)∧wr=w1) (fun n _ _=>6 - (intOf n).toNat)
 case atStart=>exact⟨1,hv,by omega,by omega,rfl,rfl,rfl⟩
 case round=>
  obtain⟨k,hv,hk1,hk6,rfl,rfl,rfl⟩:=hrel;have hwk:IntKind.i64.wrap ((k:Int)+1)=((k+1:Nat):Int):=by rw[F_ _ (by omega)];omega
  obtain⟨b,hbb⟩:∃b:Bool,(bits .and .u64 (hv:Int) 3==0)=b:=⟨_,rfl⟩
  cases b with
  |false=>
   go_wp2;go_ret;exact⟨k,hk1,hk6,rfl,hb⟩
  |true=>
   by_cases h6:k < 6
   ·have h6i:(k:Int) < 6:=by omega
    go_wp2;go_roundw
    case rel=>exact⟨k+1,hv / 4,by omega,by omega,rfl,by go_num,trivial⟩
    case measure=>simp[intOf];omega
   ·have h6i:((k:Int) < 6)=False:=eq_false (by omega)
    go_wp2;go_ret;exact⟨k,hk1,hk6,rfl,hb⟩
def wv4 (w:World) (m L:Nat) (ns:List Nd) (l:List It) (e:Ending) (w':World):Prop:=∃ns',e=.returned (.int .i64 0)∧MmAt w' m L ns'∧its ns'=l.foldl wput (its ns)∧Chg (m::skF L ns) w w'∧∀g∈skF L ns',g∈skF L ns∨w.heap.size≤g
theorem bw4 (l:List It) (x:It):(wput l x).length≤l.length+1:=by
 unfold wput;split
 ·omega
 ·unfold put
  have h1:=ay_ (fun y=>It.less y x) l;rw[e_,r_];have:∀l:List It,(l.filter fun y=>It.less y x).length+(l.filter fun y=>It.less x y).length≤l.length:=by
   intro l
   induction l with
   |nil=>simp
   |cons a r ih=>
    simp only[bf_]
    cases h2:It.less a x<;>cases h3:It.less x a
    ·simp;omega
    ·simp;omega
    ·simp;omega
    ·rw[It.vw]at h2 h3;omega
  have:=this l;omega
theorem pw1:∀(b a:List It),(b.foldl wput a).length≤a.length+b.length
 |[],a=>by simp
 |x::b,a=>by
  have h1:=pw1 b (wput a x);have h2:=bw4 a x;simp only[bj_,r_];omega
theorem zx4 {w1 wr w7 w8:World} {ns' ns2:List Nd} {R:List It} {x:It} (K:MmAt wr m L ns'∧its ns'=R∧Chg (m::skF L ns) w1 wr∧∀g∈skF L ns',g∈skF L ns∨w1.heap.size≤g)
  (b7:Below wr.heap.size wr w7) (q1:SkAt w8 L ns2) (q2:its ns2=wput (its ns') x) (q3:Chg (skF L ns') w7 w8) (q4:∀g∈skF L ns2,g∈skF L ns'∨w7.heap.size≤g):
  MmAt w8 m L ns2∧its ns2=wput R x∧Chg (m::skF L ns) w1 w8∧∀g∈skF L ns2,g∈skF L ns∨w1.heap.size≤g:=by
 obtain⟨k1,k2,k3,k4⟩:=K;obtain⟨sz,hb⟩:=(k1.below b7).box;have hs1:=k3.size;have hs2:=b7.size;have hml:m < wr.heap.size:=by
  obtain⟨sz,hb⟩:=k1.box;exact hb.lt
 refine⟨⟨⟨sz,hb.chg q3 k1.out⟩,q1,fun hm=>?_⟩,by rw[q2,k2],(k3.trans (Chg.of_below b7 (m::skF L ns)) (fun g hg=>.inl hg)).trans q3 (fun g hg=>?_),fun g hg=>?_⟩
 ·rcases q4 m hm with h|h
  ·exact k1.out h
  ·omega
 ·rcases k4 g hg with h|h
  ·exact .inl (f_ _ h)
  ·exact .inr h
 ·rcases q4 g hg with h|h
  ·exact k4 g h
  ·exact .inr (by omega)
theorem zj2 (h:MmAt w m L ns) (A:Option Addr) (n c:Nat) (l:List It) (hn:n≤400000) (hnl:(its ns).length≤400000) (hr:Row w.heap.size w A n 5 (itc l)) (hA:∀a,A=some a→a.block≠m∧a.block∉skF L ns) (hk:l.all It.ok=true):
  Calls Tryz.prog 87 #[.pointer (some ⟨m,0,none⟩),.slice A n c] w (wv4 w m L ns l):=by
 have hnn:=hr.uz;obtain⟨sz,hb⟩:=h.box;have c4:=hb.c4;have hal:=qy1 168 (fun _ _=>rfl) #[] (fun x=>!x.ok) A n c l w (by omega) hr (fun x w1 _=>rz4 x w1);rw[lw2,hk]at hal;have HAL:=H_ hal;have HKK:=H_ hk;have H:=H_ h;clear hal hk hb h;go_enter Tryz.func87,Tryz.ntmps87;go_wp2_with fail;refine HAL.out.mono ?_;rintro e w1 ⟨rfl,hb1⟩;have h1:=H.out.below hb1;have hr1:=(hr.below hb1).up hb1.size;have HB1:=H_ hb1;have H1:=H_ h1;clear h1 hb1 hr HAL;go_wp2_with fail
 go_loopw [17] (fun s wr=>∃(k:Nat) (ns':List Nd),k≤n∧s=.int .i64 (k:Int)∧Hid (MmAt wr m L ns'∧its ns'=(l.take k).foldl wput (its ns)∧Chg (m::skF L ns) w1 wr∧∀g∈skF L ns',g∈skF L ns∨w1.heap.size≤g)) (fun s _=>n - (intOf s).toNat)
 case atStart=>exact⟨0,ns,t_ _,rfl,H_ ⟨H1.out,rfl,Chg.refl _ _,fun g hg=>.inl hg⟩⟩
 case round=>
  obtain⟨k,ns',hkn,rfl,HK⟩:=hrel
  by_cases hlt:k < n
  ·have hki:(k:Int) < (n:Int):=by omega
   have hwk:IntKind.i64.wrap (k:Int)=(k:Int):=F_ _ (by omega);have hrk:Row w1.heap.size wr A n 5 (itc l):=HK.out.2.2.1.row hr1 l_ (fun a ha hm=>by
    rcases g_.1 hm with h2|h2
    ·exact(hA a ha).1 h2
    ·exact(hA a ha).2 h2)
   obtain⟨p,hl,rfl,hbk,c0,c1,c2',c3,c4⟩:=hrk.it hlt;have hxk:l[k].ok=true:=by have:=HKK.out;rw[al_]at this;exact this _ (v_ hl)
   have hft:(l.take (k+1)).foldl wput (its ns)=wput ((l.take k).foldl wput (its ns)) l[k]:=by
    rw[o_ hl,bn_];rfl
   generalize l[k]=x at *;have hnb:ns'.length≤1000000:=by
    have h2:=lx2 HK.out.1.sk;have h3:=pw1 (l.take k) (its ns);rw[←HK.out.2.1,u_]at h3;omega
   have hUb:=b_ wr (.cells #[.int .i64 x.s,.int .i64 x.k,.int .u64 (x.t:Int),.int .u64 (x.v:Int),.int .i64 x.x] 36);have hbx:BoxO (wr.alloc (.cells #[.int .i64 x.s,.int .i64 x.k,.int .u64 (x.t:Int),.int .u64 (x.v:Int),.int .i64 x.x] 36)) 36 wr.heap.size x.cells:=BoxO.new wr #[.int .i64 x.s,.int .i64 x.k,.int .u64 (x.t:Int),.int .u64 (x.v:Int),.int .i64 x.x] 36;have hmm:=HK.out.1.below hUb;have hhe:=fun W=>height_any x hxk W;have hpu:=fun W (hW:Below wr.heap.size wr W) (h:Nat) h1 h6=>dk4 L h ns' x W (HK.out.1.sk.below hW) hxk h1 h6 hnb;obtain⟨sz',hmb⟩:=hmm.box;have hkc:∀w',Below wr.heap.size wr w'→w'.cell? ⟨m,0,none⟩=some (.pointer (some ⟨L,0,none⟩)):=fun w' hw=>by
    obtain⟨sz2,hmb2⟩:=(HK.out.1.below hw).box;exact hmb2.cell 0
   have hkx:∀w',Below (wr.heap.size+1) (wr.alloc (.cells #[.int .i64 x.s,.int .i64 x.k,.int .u64 (x.t:Int),.int .u64 (x.v:Int),.int .i64 x.x] 36)) w'→w'.cell? ⟨wr.heap.size,0,none⟩=some (.int .i64 x.s)∧w'.cell? ⟨wr.heap.size,1,none⟩=some (.int .i64 x.k)∧w'.cell? ⟨wr.heap.size,2,none⟩=some (.int .u64 (x.t:Int))∧w'.cell? ⟨wr.heap.size,3,none⟩=some (.int .u64 (x.v:Int))∧w'.cell? ⟨wr.heap.size,4,none⟩=some (.int .i64 x.x):=fun w' hw=>by
    have e:=hbx.below (w':=w') (by simpa using hw);exact⟨e.cell 0,e.cell 1,e.cell 2,e.cell 3,e.cell 4⟩
   unfold It.val at hhe hpu;have HHE:=H_ hhe;have HPU:=H_ hpu;have HUB:=H_ hUb;have HBX:=H_ hbx;have HFT:=H_ hft;have KC:=H_ hkc;have m0:=hmb.cell 0;have b0:=hbx.cell 0;have b1:=hbx.cell 1;have b2:=hbx.cell 2;have b3:=hbx.cell 3;have b4:=hbx.cell 4;simp only[It.cells,gE0,gE1]at b0 b1 b2 b3 b4 m0;obtain⟨U,hU⟩:=n_ (wr.alloc (.cells #[.int .i64 x.s,.int .i64 x.k,.int .u64 (x.t:Int),.int .u64 (x.v:Int),.int .i64 x.x] 36));have hkz:∀w',Below U.heap.size U w'→w'.cell? ⟨m,0,none⟩=some (.pointer (some ⟨L,0,none⟩))∧(w'.cell? ⟨wr.heap.size,0,none⟩=some (.int .i64 x.s)∧w'.cell? ⟨wr.heap.size,1,none⟩=some (.int .i64 x.k)∧w'.cell? ⟨wr.heap.size,2,none⟩=some (.int .u64 (x.t:Int))∧w'.cell? ⟨wr.heap.size,3,none⟩=some (.int .u64 (x.v:Int))∧w'.cell? ⟨wr.heap.size,4,none⟩=some (.int .i64 x.x)):=fun w' hw=>by
    rw[hU]at hw;have e:=hbx.below hw;have e2:=(hmb.below hw).cell 0;exact⟨e2,e.cell 0,e.cell 1,e.cell 2,e.cell 3,e.cell 4⟩
   rw[←hU]at m0 b0 b1 b2 b3 b4 HBX HUB;have KZ:=H_ hkz;have HU:=hU.symm;clear hhe hpu hUb hbx hft hkc hkx hmb hmm hrk hU hkz HBX KC;go_wp2_with fail;clear HU c0 c1 c2' c3 c4
   go_region_with (first
    |(go_at_call 171;refine(HHE.out _).mono ?_;rintro e w7 ⟨hh,hh1,hh6,rfl,hb7'⟩;have hb7:=(ak (Below.refl U.heap.size U)).trans hb7';obtain⟨m1,d0,d1,d2,d3,d4⟩:=KZ.out w7 hb7)
    |(go_at_call 170;refine(HPU.out _ (az HUB.out hb7) hh hh1 hh6).mono ?_;rintro e w8 ⟨bb,ns2,rfl,q1,q2,q3,q4⟩))
   all_goals
    have hst:=zx4 HK.out (az HUB.out hb7) q1 q2 q3 q4;rw[←HFT.out]at hst;have HST:=H_ hst;clear hst q1 q2 q3 q4 hb7 hb7' m1 d0 d1 d2 d3 d4;go_wp2;go_roundw
    case rel=>exact⟨k+1,ns2,by omega,by go_num,HST⟩
    case measure=>simp[intOf];omega
  ·have hki:((k:Int) < (n:Int))=False:=eq_false (by omega)
   have hall:l.take k=l:=i_ (by omega);have hkk:=HK.out;rw[hall]at hkk;obtain⟨g1,g2,g3,g4⟩:=hkk;obtain⟨sz',hmb⟩:=g1.box;have m0:=hmb.c0;have m5:=hmb.c5;have f5:=hmb.free 5;obtain⟨N,hN⟩:=n_ ((its ns').length);have hNb:N≤800000:=by
    have h3:=pw1 l (its ns);rw[←g2]at h3;omega
   have hw28:IntKind.i64.wrap ((N:Int)*28)=(N:Int)*28:=F_ _ (by omega);have hle:=lv4 L ns' wr.drew (g1.sk.chg (F:=[]) (Chg.refl _ wr).drew (fun _ _=>by simp));rw[←hN]at hle;have hst:=zy1 m 5 sz' ((N:Int)*28) wr.drew m5 f5;have hc5:=uw wr.drew ⟨m,5,none⟩ (.int .i64 ((N:Int)*28));have hm5:=hmb.drew.store 5 (.int .i64 ((N:Int)*28));simp only[ak_,ac_]at hm5;have hfin:wv4 w m L ns l (.returned (.int .i64 0)) (wr.drew.setCell ⟨m,5,none⟩ (.int .i64 ((N:Int)*28))):=by
    refine⟨ns',rfl,⟨⟨_,hm5⟩,(g1.sk.chg (F:=[]) (Chg.refl _ wr).drew (fun _ _=>by simp)).chg hc5 (fun g hg e=>g1.out ((c_.1 e:g=m)▸hg)),g1.out⟩,g2,?_,fun g hg=>?_⟩
    ·exact((Chg.of_below HB1.out (m::skF L ns)).trans (g3.drew) (fun g hg=>.inl hg)).trans hc5 (fun g hg=>.inl (by rw[(c_.1 hg:g=m)];exact m_))
    ·rcases g4 g hg with h2|h2
     ·exact .inl h2
     ·exact .inr (h_ HB1.out.size h2)
   have HLE:=H_ hle;have HST:=H_ hst;have HFIN:=H_ hfin;clear hle hst hc5 hm5 hfin g1 g2 g3 g4 hmb HK hN hall;go_wp2_with fail
   go_region_with (first
    |(go_at_call 172;refine HLE.out.mono ?_;rintro e w7 ⟨rfl,rfl⟩)
    |(go_at_call 159;refine HST.out.mono ?_;rintro e w8 ⟨rfl,rfl⟩))
   all_goals
    go_wp2;go_ret;exact HFIN.out
end
section
open Go Go.RowKit
namespace Mg
def hd (ls:List (List It)) (a:Option Nat):List It→Bool
 |[]=>false
 |x::_=>match a with
  |none=>true
  |some j=>match ls.getD j [] with
   |[]=>false
   |y::_=>x.less y
def sel (ls:List (List It)):Nat→Option Nat
 |0=>none
 |k+1=>if hd ls (sel ls k) (ls.getD k [])=true then some k else sel ls k
def at_:Option Nat→Int
 |none=>-1
 |some j=>(j:Int)
def put (out:List It) (x:It):List It:=match out.getLast? with
 |none=>[x]
 |some y=>if y.same x=true then if x.wins y=true then out.dropLast++[x] else out else out++[x]
def run:Nat→List (List It)→List It→List It
 |0,_,out=>out
 |f+1,ls,out=>match sel ls ls.length with
  |none=>out
  |some j=>match ls.getD j [] with
   |[]=>out
   |x::r=>run f (ls.set j r) (put out x)
def tot (ls:List (List It)):Nat:=(ls.map List.length).sum
def rows (ls:List (List It)):List It:=run (tot ls) ls []
theorem ij3 {ls:List (List It)}:∀{k j:Nat},sel ls k=some j→j < k∧∃x r,ls.getD j []=x::r
 |k+1,j,h=>by
  unfold sel at h;split at h
  ·next hh=>
   injection h with h;subst h;refine⟨by omega,?_⟩
   cases e:ls.getD k [] with
   |nil=>rw[e]at hh;simp[hd]at hh
   |cons x r=>exact⟨x,r,rfl⟩
  ·obtain⟨h1,h2⟩:=ij3 h
   exact⟨by omega,h2⟩
theorem bq3:∀{ls:List (List It)} {j:Nat} {x:It} {r:List It},j < ls.length→ls.getD j []=x::r→tot (ls.set j r)+1=tot ls
 |l::ls,0,x,r,_,h=>by
  simp only[bE_]at h;subst h;simp[tot];omega
 |l::ls,j+1,x,r,hj,h=>by
  have:=bq3 (ls:=ls) (j:=j) (x:=x) (r:=r) (by simpa using hj) (by simpa using h);simp only[tot,ac_,aw_,b7_]at *;omega
theorem ik (out:List It) (x:It):(put out x).length≤out.length+1:=by
 unfold put;split
 ·simp
 ·split
  ·split
   ·simp only[e_,bT_,r_,R_];omega
   ·omega
  ·simp
theorem ly4 {ls:List (List It)} {out:List It} (h:sel ls ls.length=none) (f:Nat):run f ls out=out:=by
 cases f with
 |zero=>rfl
 |succ f=>simp only[run,h]
theorem mj4 {ls:List (List It)} {out:List It} {j:Nat} {x:It} {r:List It} (h:sel ls ls.length=some j) (hx:ls.getD j []=x::r):run (tot ls) ls out=run (tot (ls.set j r)) (ls.set j r) (put out x):=by
 have hj:=(ij3 h).1;have ht:=bq3 hj hx;rw[←ht];simp only[run,h,hx]
end Mg
end
end Go.Proofs.YthjdpplgfdihoaaGreatDoor
