/- Texts StateH, StateI, StateJ, StateK, StateL, RefJ, RefN, ItemN, BlockA in one. No conditions. -/
import Derived.Test.YthjdpplgfdihoaaGreatDoorBunAL
import Derived.Test.YthjdpplgfdihoaaGreatDoorBunAN

set_option linter.unusedSimpArgs false
set_option linter.unusedVariables false
set_option maxRecDepth 100000
set_option maxHeartbeats 16000000
namespace Go.Proofs.YthjdpplgfdihoaaGreatDoor
section
open Go Go.RowKit Go.Lib
structure Its (B:Nat) (w:World) (A:Option Addr) (n c:Nat) (l:List It):Prop where
 row:Row w.heap.size w A n 5 (itc l)
 nc:n≤c
 cm:c≤maxLen
 low:∀a,A=some a→B≤a.block
theorem kk1 (A:Option Addr) (n c:Nat) (w:World) (hnc:n≤c):Calls Tryz.prog 164 #[.slice A n c] w fun e w'=>e=.returned (.slice A n n)∧w=w':=by
 have h1:(n:Int)≤(c:Int):=by omega
 go_enter Tryz.func164,Tryz.ntmps164;go_wp2;go_ret;exact⟨rfl,rfl⟩
theorem Stt.take {l:List It} (h:Stt l) (k:Nat):Stt (l.take k):=
 ⟨h.rises.sublist (b4_ k l),fun y hy=>h.ok y (aN_ hy),fun a ha b hb=>h.bare a (aN_ ha) b (aN_ hb)⟩
theorem Stt.zj3 {l:List It} (h:Stt l) {k:Nat} (hk:k < l.length):hidden (l.take k) l[k]=false:=by
 unfold hidden;rw[S_];intro t ht;simp[h.bare t (aN_ ht) l[k] (v_ hk)]
theorem kz21 {P S a oi v} (h:Hv P S a oi v:=by intro w hSw;(obtain⟨x0,x1,x2,x3,x4⟩:=KC.out w hSw);go_simp;try (with_reducible rfl)):Hv P S a oi v:=h
theorem kz22 {P S a oi v} (h:Hv P S a oi v:=by intro w hSw;(obtain⟨⟨x0,x1,x2,x3,x4⟩,y0,y1,y2,y3,y4⟩:=KC.out w hSw);go_simp;try (with_reducible rfl)):Hv P S a oi v:=h
theorem wy4 (A:Option Addr) (n c:Nat) (l:List It) (w:World) (hn:n≤1000000) (hnc:n≤c) (hcm:c≤maxLen) (hS:Stt l) (hr:Row w.heap.size w A n 5 (itc l)):
  Calls Tryz.prog 174 #[.slice A n c] w fun e w'=>e=.returned (.bool true)∧Below w.heap.size w w':=by
 have hnn:=hr.uz;have HS:=H_ hS;unfold maxLen at hcm;clear hS;go_enter Tryz.func174,Tryz.ntmps174;go_wp2
 go_loopw [7] (fun i wr=>∃k:Nat,k≤n∧i=.int .i64 (k:Int)∧Below w.heap.size w wr) (fun i _=>n - (intOf i).toNat)
 case atStart=>exact⟨0,t_ _,rfl,Below.refl _ _⟩
 case round=>
  obtain⟨k,hk,rfl,hbl⟩:=hrel
  by_cases hlt:k < n
  ·obtain⟨a,hl,rfl,hbk,c0,c1,c2,c3,c4⟩:=(hr.below hbl).it hlt
   have hko:=HS.out.ok _ (v_ hl);have hba:=HS.out.zj3 hl;have hok:=fun W=>nk1 l[k] W;have hpre:=fun(W:World) (hW:Below wr.heap.size wr W)=>(((hr.below hbl).up hbl.size).below hW).up hW.size|>.pre (Nat.le_of_lt hlt)
   have hhd:=fun(W:World) (hW:Below wr.heap.size wr W)=>ey2 (some a) k c (l.take k) l[k] W (by omega) (HS.out.take k).rises (HS.out.take k).ok (by rw[bz1];exact hpre W hW);rw[hba]at hhd;simp only[hko]at hok;have hless:∀(j:Nat) (hj:j < l.length),j < k→It.less l[j] l[k]=true:=fun j hj hjk=>ai_.1 HS.out.rises j k hj hl hjk;generalize hxk:l[k]=x at *;have hW0:=b_ wr (.cells #[.int .i64 x.s,.int .i64 x.k,.int .u64 (x.t:Int),.int .u64 (x.v:Int),.int .i64 x.x] 36);have hbx:BoxO (wr.alloc (.cells #[.int .i64 x.s,.int .i64 x.k,.int .u64 (x.t:Int),.int .u64 (x.v:Int),.int .i64 x.x] 36)) 36 wr.heap.size x.cells:=BoxO.new wr #[.int .i64 x.s,.int .i64 x.k,.int .u64 (x.t:Int),.int .u64 (x.v:Int),.int .i64 x.x] 36;obtain⟨W,hWe⟩:=n_ (wr.alloc (.cells #[.int .i64 x.s,.int .i64 x.k,.int .u64 (x.t:Int),.int .u64 (x.v:Int),.int .i64 x.x] 36));obtain⟨g,hg⟩:=n_ wr.heap.size;rw[←hWe]at hW0 hbx;rw[←hg]at hbx;have hkx:∀w',Below W.heap.size W w'→w'.cell? ⟨g,0,none⟩=some (.int .i64 x.s)∧w'.cell? ⟨g,1,none⟩=some (.int .i64 x.k)∧w'.cell? ⟨g,2,none⟩=some (.int .u64 (x.t:Int))∧w'.cell? ⟨g,3,none⟩=some (.int .u64 (x.v:Int))∧w'.cell? ⟨g,4,none⟩=some (.int .i64 x.x):=fun w' hb=>by
    have hB:=hbx.below hb;exact⟨hB.cell 0,hB.cell 1,hB.cell 2,hB.cell 3,hB.cell 4⟩
   unfold It.val at hok hhd;have hbz:∀w',Below W.heap.size W w'→Below wr.heap.size wr w':=fun w' h=>az hW0 h;have HOK:=H_ hok;have HHD:=H_ hhd;have HW:=H_ hWe;have HG:=H_ hg;have hkn:(k:Int)≤(n:Int):=by omega
   have hkc:k≤c:=by omega
   have hkc2:(k:Int)≤(c:Int):=by omega
   have hwk:IntKind.i64.wrap (k:Int)=(k:Int):=F_ _ (by omega)
   rcases ad_ k with h0|h0
   ·have hk0:((0:Int) < (k:Int))=False:=eq_false (by omega)
    have hk1:(0 < k)=False:=eq_false (by omega);clear h0;have KC:=H_ hkx;clear hkx hok hhd hWe hg hko hba hpre hless hxk hbx hW0;go_wp2_with fail;rw[←HW.out,←HG.out];refine wp_region_held_drew (S:=fun w'=>Below W.heap.size W w') rfl (ak b0_) (fun hSw=>?_);refine w_v 0 hSw ?_ (k:=kz21);go_simp;refine w_r 1 fun K hK=>?_;go_simp
    with_reducible refine(HOK.out _).mono ?_
    rintro e w1 ⟨rfl,hb1⟩;go_simp;refine hK.out _ _ (hSw.trans (hb1.mono hSw.size)) ?_;clear hSw hK K;intro hSw;go_simp;refine w_v 2 hSw ?_ (k:=kz21);go_simp;refine w_v 3 hSw ?_ (k:=kz21);go_simp;refine w_v 4 hSw ?_ (k:=kz21);go_simp;refine w_v 5 hSw ?_ (k:=kz21);go_simp;refine w_v 6 hSw ?_ (k:=kz21);go_simp;refine wpT0 (i:=7) hSw ?_;go_simp;refine wpT0 (i:=8) hSw ?_;go_simp;refine wpT0 (i:=9) hSw ?_;go_simp;refine wpT0 (i:=10) hSw ?_;go_simp;refine wpT0 (i:=11) hSw ?_;go_simp;refine wpT0 (i:=12) hSw ?_;go_simp;refine wpT0 (i:=13) hSw ?_;go_simp;refine wpT0 (i:=14) hSw ?_;go_simp;refine w_v 15 hSw ?_ (k:=kz21);go_simp;refine w_v 16 hSw ?_ (k:=kz21);go_simp;refine w_v 17 hSw ?_ (k:=kz21);go_simp;refine w_v 18 hSw ?_ (k:=kz21);go_simp;refine w_v 19 hSw ?_ (k:=kz21);go_simp;refine w_v 20 hSw ?_ (k:=kz21);go_simp;refine w_v 21 hSw ?_ (k:=kz21);go_simp;refine w_r 22 fun K hK=>?_;go_simp
    with_reducible refine(HHD.out _ (hbz _ hSw)).mono ?_
    rintro e w2 ⟨rfl,hb2⟩;go_simp;refine hK.out _ _ (hSw.trans (hb2.mono hSw.size)) ?_;clear hSw hK K;intro hSw;go_simp;refine w_v 23 hSw ?_ (k:=kz21);go_simp;refine wpAnyH_done (by kernel_rfl) ?_ _;have hby:=az hbl (hbz _ hSw);clear hSw KC HOK HHD;go_wp2;go_roundw
    case rel=>exact⟨k+1,by omega,by go_num,hby⟩
    case measure=>simp[intOf];omega
   ·obtain⟨j,hj⟩:∃j,k=j+1:=⟨k - 1,by omega⟩
    obtain⟨a2,hl2,ea,_,hd⟩:=(hr.below hbl).it (k:=j) (by omega);injection ea with ea;subst ea;have hls:=fun W=>ez1 l[j] x W;rw[hless j hl2 (by omega)]at hls;generalize l[j]=y at *;unfold It.val at hls;have hkc:∀w',Below W.heap.size W w'→(w'.cell? ⟨g,0,none⟩=some (.int .i64 x.s)∧w'.cell? ⟨g,1,none⟩=some (.int .i64 x.k)∧w'.cell? ⟨g,2,none⟩=some (.int .u64 (x.t:Int))∧w'.cell? ⟨g,3,none⟩=some (.int .u64 (x.v:Int))∧w'.cell? ⟨g,4,none⟩=some (.int .i64 x.x))∧w'.cell? (a.add (j *5))=some (.int .i64 y.s)∧w'.cell? ⟨(a.add (j *5)).block,(a.add (j *5)).off+1,none⟩=some (.int .i64 y.k)∧w'.cell? ⟨(a.add (j *5)).block,(a.add (j *5)).off+2,none⟩=some (.int .u64 (y.t:Int))∧w'.cell? ⟨(a.add (j *5)).block,(a.add (j *5)).off+3,none⟩=some (.int .u64 (y.v:Int))∧w'.cell? ⟨(a.add (j *5)).block,(a.add (j *5)).off+4,none⟩=some (.int .i64 y.x):=fun w' hb=>by
     have h2:=hd.below (B:=wr.heap.size) (w':=w') (L_ hbk hbl.size) (hbz _ hb);exact⟨hkx w' hb,h2.c0,h2.c1,h2.c2,h2.c3,h2.c4⟩
    have hk0:(0:Int) < (k:Int):=by omega
    have hk1:0 < k:=h0;have hkj:(k:Int) - 1=(j:Int):=by omega
    have hwj:IntKind.i64.wrap (j:Int)=(j:Int):=F_ _ (by omega);have hw1:IntKind.i64.wrap ((k:Int) - 1)=(j:Int):=by rw[hkj];exact hwj
    have hjn:(j:Int) < (n:Int):=by omega
    have KC:=H_ hkc;have HLS:=H_ hls;clear hkx hok hhd hWe hg hko hba hpre hless hxk hbx hW0 hkc hls hd hj h0;go_wp2_with fail;rw[←HW.out,←HG.out];refine wp_region_held_drew (S:=fun w'=>Below W.heap.size W w') rfl (ak b0_) (fun hSw=>?_);refine w_v 0 hSw ?_ (k:=kz22);go_simp;refine w_r 1 fun K hK=>?_;go_simp
    with_reducible refine(HOK.out _).mono ?_
    rintro e w1 ⟨rfl,hb1⟩;go_simp;refine hK.out _ _ (hSw.trans (hb1.mono hSw.size)) ?_;clear hSw hK K;intro hSw;go_simp;refine w_v 2 hSw ?_ (k:=kz22);go_simp;refine w_v 3 hSw ?_ (k:=kz22);go_simp;refine w_v 4 hSw ?_ (k:=kz22);go_simp;refine w_v 5 hSw ?_ (k:=kz22);go_simp;refine w_v 6 hSw ?_ (k:=kz22);go_simp;refine w_v 7 hSw ?_ (k:=kz22);go_simp;refine w_v 8 hSw ?_ (k:=kz22);go_simp;refine w_v 9 hSw ?_ (k:=kz22);go_simp;refine w_v 10 hSw ?_ (k:=kz22);go_simp;refine w_v 11 hSw ?_ (k:=kz22);go_simp;refine w_v 12 hSw ?_ (k:=kz22);go_simp;refine w_r 13 fun K hK=>?_;go_simp
    with_reducible refine(HLS.out _).mono ?_
    rintro e w3 ⟨rfl,hb3⟩;go_simp;refine hK.out _ _ (hSw.trans (hb3.mono hSw.size)) ?_;clear hSw hK K;intro hSw;go_simp;refine w_v 14 hSw ?_ (k:=kz22);go_simp;refine w_v 15 hSw ?_ (k:=kz22);go_simp;refine w_v 16 hSw ?_ (k:=kz22);go_simp;refine w_v 17 hSw ?_ (k:=kz22);go_simp;refine w_v 18 hSw ?_ (k:=kz22);go_simp;refine w_v 19 hSw ?_ (k:=kz22);go_simp;refine w_v 20 hSw ?_ (k:=kz22);go_simp;refine w_v 21 hSw ?_ (k:=kz22);go_simp;refine w_r 22 fun K hK=>?_;go_simp
    with_reducible refine(HHD.out _ (hbz _ hSw)).mono ?_
    rintro e w2 ⟨rfl,hb2⟩;go_simp;refine hK.out _ _ (hSw.trans (hb2.mono hSw.size)) ?_;clear hSw hK K;intro hSw;go_simp;refine w_v 23 hSw ?_ (k:=kz22);go_simp;refine wpAnyH_done (by kernel_rfl) ?_ _;have hby:=az hbl (hbz _ hSw);clear hSw KC HOK HHD HLS;go_wp2;go_roundw
    case rel=>exact⟨k+1,by omega,by go_num,hby⟩
    case measure=>simp[intOf];omega
  ·go_wp2
   go_ret;exact⟨rfl,hbl⟩
end
section
open Go Go.RowKit Go.Lib
theorem pq3 {a b:List It} {k:Nat} (h:k < b.length):joins a (b.take (k+1))=add (joins a (b.take k)) b[k]:=by
 unfold joins;rw[o_ h,bn_];rfl
def cw1 (w:World) (R:List It) (e:Ending) (w':World):Prop:=∃A' k,e=.returned (.slice A' k k)∧k=R.length∧Its w.heap.size w' A' k k R∧Below w.heap.size w w'
theorem oy2 (A:Option Addr) (n c:Nat) (a:List It) (B:Option Addr) (m d:Nat) (b:List It) (w:World) (hsz:n+m≤900000) (hnc:n≤c) (hcm:c≤maxLen) (hS:Stt a) (ra:Row w.heap.size w A n 5 (itc a)) (rb:Row w.heap.size w B m 5 (itc b)):
  Calls Tryz.prog 89 #[.slice A n c,.slice B m d] w (cw1 w (joins a b)):=by
 have hna:=ra.uz;have hmb:=rb.uz;have how:=zv4 A n c a w (by omega) ra;have hok:=fun W (hb:Below w.heap.size w W)=>wy4 A n c a W (by omega) hnc hcm hS ((ra.below hb).up hb.size);obtain⟨R,hR⟩:=n_ (joins a b);rw[←hR];have HR:=H_ hR;have HOW:=H_ how;have HOK:=H_ hok;have HS:=H_ hS;clear how hok hR hS ra;go_enter Tryz.func89,Tryz.ntmps89;go_wp2_with fail;refine HOW.out.mono ?_;rintro e w1 ⟨A1,c1,rfl,ho1,hb1⟩;have HO1:=H_ ho1;clear HOW ho1;go_wp2_with fail;refine(HOK.out _ hb1).mono ?_;rintro e w2 ⟨rfl,hb2⟩;have hb3:=az hb1 hb2;have ho2:=own_below HO1.out hb2;have HO2:=H_ ho2;clear ho2 HO1 hb1 hb2 HOK;go_wp2_with fail
 go_loopw [5,17] (fun v i wr=>∃(k q:Nat) (A2:Option Addr) (c2:Nat),k≤m∧v=.slice A2 q c2∧i=.int .i64 (k:Int)∧Hid (q=(joins a (b.take k)).length∧wr.ownsRow w.heap.size 36 5 (.slice A2 q c2) q (itc (joins a (b.take k))))∧Below w.heap.size w wr) (fun _ i _=>m - (intOf i).toNat)
 case atStart=>exact⟨0,n,A1,c1,t_ _,rfl,rfl,H_ ⟨hna.symm,HO2.out⟩,hb3⟩
 case round=>
  obtain⟨k,q,A2,c2,hk,rfl,rfl,HQ,hbl⟩:=hrel;clear HO2 hb3
  by_cases hlt:k < m
  ·obtain⟨p,hl,rfl,hbk,c0,c1,c2',c3,c4⟩:=(rb.below hbl).it hlt
   have hjt:=pq3 (a:=a) hl;have hst:=(vx2 (b.take k) HS.out).1;have hjl:=rx2 (b.take k) a;rw[u_]at hjl;have hq1:=HQ.out.1;have hoV:=own_below HQ.out.2 (b_ wr (.cells #[.int .i64 (b[k]).s,.int .i64 (b[k]).k,.int .u64 ((b[k]).t:Int),.int .u64 ((b[k]).v:Int),.int .i64 (b[k]).x] 36));have hsa:=oj4 w.heap.size A2 q c2 _ b[k] _ (by omega) (h_ hbl.size (by simp)) hst hoV;rw[←hjt]at hsa;generalize b[k]=x at *;unfold It.val at hsa;have hbV:=hbl.alloc hbl.size (.cells #[.int .i64 x.s,.int .i64 x.k,.int .u64 (x.t:Int),.int .u64 (x.v:Int),.int .i64 x.x] 36);have HSA:=H_ (d_ hsa hbV);clear hsa hbV hoV hst hjt hjl hq1;go_wp2_with fail;refine HSA.out.1.mono ?_;rintro e w5 ⟨k5,A5,c5,rfl,hk5,ho5,hb5⟩;have H5:=H_ (d_ (d_ hk5 ho5) (HSA.out.2.trans hb5));clear hk5 ho5 hb5 HSA HQ;go_wp2;go_roundw
   case rel=>exact⟨k+1,k5,A5,c5,by omega,rfl,by go_num,H_ H5.out.1,H5.out.2⟩
   case measure=>simp[intOf];omega
  ·have hall:joins a (b.take k)=R:=by rw[i_ (by omega),HR.out]
   have hq:=HQ.out;rw[hall]at hq;obtain⟨A3,c3,hv,hqc,hqm,hlow⟩:=dw hq.2;injection hv with e1 e2 e3;subst e1 e3;have hits:Its w.heap.size wr A2 q q R:=⟨Row.own hq.2,x_ _,h_ hqc hqm,fun p hp=>(hlow p hp).1⟩;have hcl:=kk1 A2 q c2 wr hqc;have HF:=H_ (d_ hq.1 hits);have HCL:=H_ hcl;clear hcl hits hq hall hlow hqc hqm;go_wp2_with fail;refine HCL.out.mono ?_;rintro e w6 ⟨rfl,rfl⟩;go_wp2;go_ret;exact⟨A2,q,rfl,HF.out.1,HF.out.2,hbl⟩
end
section
open Go Go.RowKit Go.Lib
theorem lx1 {w:World} {vb:Nat} {x:It} (hv:BoxO w 36 vb x.cells):Row w.heap.size w (some ⟨vb,0,none⟩) 1 5 x.cells:=⟨rfl,fun j hj=>⟨_,rfl,hv.lt,by
 rw[show ((⟨vb,0,none⟩:Addr).add j)=⟨vb,j,none⟩ by rw[Addr.add_lit,ag_],hv.cell];exact j_ hj⟩⟩
theorem ny2 (K:Nat) (hF:∀args w,(callFunc K args).run Tryz.prog w=.ok (.enter K args) w) (capt:Array Value) (P:It→Bool) (A:Option Addr) (n c:Nat) (l:List It) (w:World) (hn:n≤1000000) (hr:Row w.heap.size w A n 5 (itc l))
  (hK:∀x w1,Below w.heap.size w w1→Calls Tryz.prog K (#[x.val] ++capt) w1 fun e w'=>e=.returned (.bool (P x))∧Below w1.heap.size w1 w'):
  Calls Tryz.prog 124 #[.slice A n c,.func (.func K) #[] capt] w (cw1 w (l.filter P)):=by
 have hnn:=hr.uz;obtain⟨i0,hi0,hz0,hz1,hz2⟩:=info_parts rq;have HF:=H_ hF;have HK:=H_ hK;clear hF hK;go_enter Tryz.func124,Tryz.ntmps124;go_wp2
 go_loopw [5,10] (fun v i wr=>∃(k q:Nat) (A2:Option Addr) (c2:Nat),k≤n∧v=.slice A2 q c2∧i=.int .i64 (k:Int)∧Hid (q=((l.take k).filter P).length∧wr.ownsRow w.heap.size 36 5 (.slice A2 q c2) q (itc ((l.take k).filter P)))∧Below w.heap.size w wr) (fun _ i _=>n - (intOf i).toNat)
 case atStart=>exact⟨0,0,none,0,t_ _,rfl,rfl,H_ ⟨rfl,E_ _ _ _ _⟩,Below.refl _ _⟩
 case round=>
  obtain⟨k,q,A2,c2,hk,rfl,rfl,HQ,hbl⟩:=hrel
  by_cases hlt:k < n
  ·obtain⟨p,hl,rfl,hbk,c0,c1,c2',c3,c4⟩:=(hr.below hbl).it hlt
   have hft:=ov1 (P:=P) hl;have hql:q≤1000000:=by
    have h1:=HQ.out.1;have h2:=ay_ P (l.take k);rw[u_]at h2;omega
   generalize l[k]=x at *;have hbV:=hbl.alloc hbl.size (.cells #[.int .i64 x.s,.int .i64 x.k,.int .u64 (x.t:Int),.int .u64 (x.v:Int),.int .i64 x.x] 36);have hbo:=b_ wr (.cells #[.int .i64 x.s,.int .i64 x.k,.int .u64 (x.t:Int),.int .u64 (x.v:Int),.int .i64 x.x] 36);have hbx:BoxO (wr.alloc (.cells #[.int .i64 x.s,.int .i64 x.k,.int .u64 (x.t:Int),.int .u64 (x.v:Int),.int .i64 x.x] 36)) 36 wr.heap.size x.cells:=BoxO.new wr #[.int .i64 x.s,.int .i64 x.k,.int .u64 (x.t:Int),.int .u64 (x.v:Int),.int .i64 x.x] 36;have hkk:=HK.out x _ hbV;unfold It.val at hkk;obtain⟨b,hb⟩:=n_ (P x);rw[←hb]at hkk hft;have HKK:=H_ hkk;have HFT:=H_ hft;clear hkk hft hb;go_wp2_with fail;rw[HF.out,Oper.upon_enter];refine HKK.out.mono ?_;rintro e w2 ⟨rfl,hb2⟩;have hb3:=az hbV (hb2);have ho3:=own_below (own_below HQ.out.2 hbo) hb2;have hbx2:=hbx.below hb2;generalize wr.heap.size=g at *
   cases b with
   |false=>
    have H3:=H_ (d_ (show q=((l.take (k+1)).filter P).length by rw[HFT.out];simpa using HQ.out.1) (show w2.ownsRow w.heap.size 36 5 (.slice A2 q c2) q (itc ((l.take (k+1)).filter P)) by rw[HFT.out];simpa using ho3));clear HKK HFT HQ ho3 hbx hbx2 hbo c0 c1 c2' c3 c4;go_wp2;go_roundw
    case rel=>exact⟨k+1,q,A2,c2,by omega,rfl,by go_num,H3.out,hb3⟩
    case measure=>simp[intOf];omega
   |true=>
    have b0:=hbx2.cell 0;have b1:=hbx2.cell 1;have b2:=hbx2.cell 2;have b3:=hbx2.cell 3;have b4:=hbx2.cell 4;simp only[It.cells,gE0,gE1]at b0 b1 b2 b3 b4;have hvb:BoxO (w2.alloc (.cells #[.int .i64 x.s,.int .i64 x.k,.int .u64 (x.t:Int),.int .u64 (x.v:Int),.int .i64 x.x] 36)) 36 w2.heap.size x.cells:=BoxO.new w2 #[.int .i64 x.s,.int .i64 x.k,.int .u64 (x.t:Int),.int .u64 (x.v:Int),.int .i64 x.x] 36;have hbA:=b_ w2 (.cells #[.int .i64 x.s,.int .i64 x.k,.int .u64 (x.t:Int),.int .u64 (x.v:Int),.int .i64 x.x] 36);have ho4:=own_below ho3 hbA;have hb4:=az hb3 hbA;have hrow:=lx1 hvb;have HX:=H_ (show itc ((l.take k).filter P)++x.cells=itc ((l.take (k+1)).filter P) by rw[HFT.out,if_pos rfl,qw];simp[itc]);have HQ1:=H_ (show q+1=((l.take (k+1)).filter P).length by rw[HFT.out,if_pos rfl,e_,←HQ.out.1];rfl);have HR:=H_ hrow;have HO:=H_ ho4;have HB:=H_ hb4;clear HKK HFT HQ ho3 ho4 hbx hbx2 hbo c0 c1 c2' c3 c4 hrow hvb hbA hb4;go_wp2_with (at_builtin;refine iy ?_);refine gz (jq rfl (.tmp 17) (.tmp 19) _ rfl w.heap.size 36 i0 _ 5 40 Tryz.underlying31 hi0 hz0 hz1 hz2 rfl (by omega) w HB.out HB.out.size _ q (itc ((l.take k).filter P)) rfl HO.out (w2.alloc (.cells #[.int .i64 x.s,.int .i64 x.k,.int .u64 (x.t:Int),.int .u64 (x.v:Int),.int .i64 x.x] 36)).heap.size _ 1 1 x.cells rfl HR.out (fun v hv=>xq [x] v (by simpa [itc] using hv)) (q+1) _ rfl HX.out (by unfold maxLen;omega) (by omega) ?_);intro A3 c3 w5 h1 h2 h3 h4 h5;have H5:=H_ (d_ HQ1.out h1);clear h1 h3 HQ1 HX HR HO HB b0 b1 b2 b3 b4;go_wp2;go_roundw
    case rel=>exact⟨k+1,q+1,A3,c3,by omega,rfl,by go_num,H5.out,h2⟩
    case measure=>simp[intOf];omega
  ·have hall:l.take k=l:=i_ (by omega)
   have hq:=HQ.out;rw[hall]at hq;obtain⟨A3,c3,hv,hqc,hqm,hlow⟩:=dw hq.2;injection hv with e1 e2 e3;subst e1 e3;have hits:Its w.heap.size wr A2 q q (l.filter P):=⟨Row.own hq.2,x_ _,h_ hqc hqm,fun p hp=>(hlow p hp).1⟩;have hcl:=kk1 A2 q c2 wr hqc;have HFF:=H_ (d_ hq.1 hits);have HCL:=H_ hcl;clear hcl hits hq hall hlow hqc hqm HQ;go_wp2_with fail;refine HCL.out.mono ?_;rintro e w6 ⟨rfl,rfl⟩;go_wp2;go_ret;exact⟨A2,q,rfl,HFF.out.1,HFF.out.2,hbl⟩
end
section
open Go Go.RowKit Go.Lib
theorem mk3 (a:It) (v b:Nat) (w:World) (hc:w.cell? ⟨b,0,none⟩=some (.int .u64 (v:Int))):
  Calls Tryz.prog 196 (#[a.val] ++#[.pointer (some ⟨b,0,none⟩)]) w fun e w'=>e=.returned (.bool (!(a.k==1&&decide (a.v≤v))))∧Below w.heap.size w w':=by
 obtain⟨s1,k1,t1,v1,x1⟩:=a;have hb0:=b_ w (.cells #[.int .i64 s1,.int .i64 k1,.int .u64 (t1:Int),.int .u64 (v1:Int),.int .i64 x1] 36);have hc1:∀o,(w.alloc o).cell? ⟨b,0,none⟩=some (.int .u64 (v:Int)):=fun o=>(af_ w o _ (V_ w _ hc)).trans hc;obtain⟨r,hr⟩:=n_ ( !(k1==1&&decide (v1≤v)));unfold It.val;simp only;rw[←hr]
 by_cases h1:k1=1
 ·subst h1
  by_cases h2:(v:Int) < (v1:Int)
  ·have HB:=H_ (hr.trans (show _=true by simp;omega))
   clear hr;go_enter Tryz.func196,Tryz.ntmps196;go_wp2;go_ret;exact⟨gy HB.out.symm,hb0⟩
  ·have HB:=H_ (hr.trans (show _=false by simp;omega))
   clear hr;go_enter Tryz.func196,Tryz.ntmps196;go_wp2;go_ret;exact⟨gy HB.out.symm,hb0⟩
 ·have e1:(k1==1)=false:=by simpa using h1
  have HB:=H_ (hr.trans (show _=true by simp[h1]));clear hr;go_enter Tryz.func196,Tryz.ntmps196;go_wp2;go_ret;exact⟨gy HB.out.symm,hb0⟩
theorem jx2 (A:Option Addr) (n c:Nat) (l:List It) (v:Nat) (w:World) (hn:n≤1000000) (hr:Row w.heap.size w A n 5 (itc l)):
  Calls Tryz.prog 110 #[.slice A n c,.int .u64 (v:Int)] w (cw1 w (fz1 l v)):=by
 have hbV:=b_ w (.cells #[.int .u64 (v:Int)] 22);have hbx:=BoxO.new w #[.int .u64 (v:Int)] 22;have ho:=ny2 196 (fun _ _=>rfl) #[.pointer (some ⟨w.heap.size,0,none⟩)] (fun a=>!(a.k==1&&decide (a.v≤v))) A n c l (w.alloc (.cells #[.int .u64 (v:Int)] 22)) hn ((hr.below hbV).up hbV.size)
  (fun x w1 hw=>mk3 x v w.heap.size w1 (by rw[(hbx.below hw).cell];rfl))
 have HO:=H_ ho;unfold fz1;clear ho hr hbx;go_enter Tryz.func110,Tryz.ntmps110;go_wp2_with fail;refine HO.out.mono ?_;rintro e w1 ⟨A1,k,rfl,h1,h2,h3⟩;have H:=H_ (show cw1 w (l.filter fun a=>!(a.k==1&&decide (a.v≤v))) (.returned (.slice A1 k k)) w1 from ⟨A1,k,rfl,h1,⟨h2.row,h2.nc,h2.cm,fun p hp=>h_ hbV.size (h2.low p hp)⟩,az hbV h3⟩);clear h1 h2 h3 HO hbV;go_wp2;go_ret;exact H.out
theorem zq2 (a:It) (s:Int) (b:Nat) (w:World) (hc:w.cell? ⟨b,0,none⟩=some (.int .i64 s)):
  Calls Tryz.prog 206 (#[a.val] ++#[.pointer (some ⟨b,0,none⟩)]) w fun e w'=>e=.returned (.bool (a.s==s))∧Below w.heap.size w w':=by
 have hb0:=b_ w (.cells #[.int .i64 a.s,.int .i64 a.k,.int .u64 (a.t:Int),.int .u64 (a.v:Int),.int .i64 a.x] 36);have hc1:∀o,(w.alloc o).cell? ⟨b,0,none⟩=some (.int .i64 s):=fun o=>(af_ w o _ (V_ w _ hc)).trans hc;unfold It.val;go_enter Tryz.func206,Tryz.ntmps206;go_wp2;go_ret;exact⟨rfl,hb0⟩
theorem dq3 (A:Option Addr) (n c:Nat) (l:List It) (s:Int) (w:World) (hn:n≤1000000) (hr:Row w.heap.size w A n 5 (itc l)):
  Calls Tryz.prog 122 #[.slice A n c,.int .i64 s] w (cw1 w (l.filter fun a=>a.s==s)):=by
 have hbV:=b_ w (.cells #[.int .i64 s] 3);have hbx:=BoxO.new w #[.int .i64 s] 3;have ho:=ny2 206 (fun _ _=>rfl) #[.pointer (some ⟨w.heap.size,0,none⟩)] (fun a=>a.s==s) A n c l (w.alloc (.cells #[.int .i64 s] 3)) hn ((hr.below hbV).up hbV.size)
  (fun x w1 hw=>zq2 x s w.heap.size w1 (by rw[(hbx.below hw).cell];rfl))
 have HO:=H_ ho;clear ho hr hbx;go_enter Tryz.func122,Tryz.ntmps122;go_wp2_with fail;refine HO.out.mono ?_;rintro e w1 ⟨A1,k,rfl,h1,h2,h3⟩;have H:=H_ (show cw1 w (l.filter fun a=>a.s==s) (.returned (.slice A1 k k)) w1 from ⟨A1,k,rfl,h1,⟨h2.row,h2.nc,h2.cm,fun p hp=>h_ hbV.size (h2.low p hp)⟩,az hbV h3⟩);clear h1 h2 h3 HO hbV;go_wp2;go_ret;exact H.out
end
section
open Go Go.RowKit Go.Lib
end
section
open Go Go.RowKit Go.Lib
theorem wj4 (x y:It) (w:World):(binOp .neq 36 (.agg #[.int .i64 x.s,.int .i64 x.k,.int .u64 (x.t:Int),.int .u64 (x.v:Int),.int .i64 x.x]) (.agg #[.int .i64 y.s,.int .i64 y.k,.int .u64 (y.t:Int),.int .u64 (y.v:Int),.int .i64 y.x])).run Tryz.prog w=.ok (.bool (!decide (x=y))) w:=by
 have u3:=Tryz.underlying3;have a3:=Tryz.isAgg3;have z3:=Tryz.sizeOf3;have u4:=Tryz.underlying22;have a4:=Tryz.isAgg22;have z4:=Tryz.sizeOf22;have u5:=Tryz.underlying2;have a5:=Tryz.isAgg2;have z5:=Tryz.sizeOf2;have hS:Tryz.prog.underlying 36=some (.struct (Tryz.prog.fieldsOf 36)):=by kernel_rfl
 have hp:Tryz.prog.stoodInHeld 36=false:=by kernel_rfl
 rw[run_neq_struct,show (10000:Nat)=9999+1 from rfl,run_equalIn_agg w 9999 36 _ _ hS hp];simp only[Program.fieldsOf,Tryz.underlying36];go_simp;have e:decide (x=y)=(decide (x.s=y.s) &&(decide (x.k=y.k) &&(decide (x.t=y.t) &&(decide (x.v=y.v) &&decide (x.x=y.x))))):=by
  rw[←a5_,←a5_,←a5_,←a5_];exact decide_eq_decide.2 ⟨fun h=>by subst h;simp,fun⟨h1,h2,h3,h4,h5⟩=>It.ext h1 h2 h3 h4 h5⟩
 rw[e]
 by_cases h1:x.s=y.s<;>by_cases h2:x.k=y.k<;>by_cases h3:x.t=y.t<;>by_cases h4:x.v=y.v<;>by_cases h5:x.x=y.x<;>simp[h1,h2,h3,h4,h5] <;>omega
theorem ik5 {x y:It} (h:x≠y) {α:Type} (A B:α):(if x.s=y.s then if x.k=y.k then if (x.t:Int)=(y.t:Int) then if (x.v:Int)=(y.v:Int) then if x.x=y.x then A else B else B else B else B else B)=B:=by
 by_cases h1:x.s=y.s
 ·by_cases h2:x.k=y.k
  ·by_cases h3:(x.t:Int)=(y.t:Int)
   ·by_cases h4:(x.v:Int)=(y.v:Int)
    ·by_cases h5:x.x=y.x
     ·exact absurd (It.ext h1 h2 (by omega) (by omega) h5) h
     ·rw[if_pos h1,if_pos h2,if_pos h3,if_pos h4,if_neg h5]
    ·rw[if_pos h1,if_pos h2,if_pos h3,if_neg h4]
   ·rw[if_pos h1,if_pos h2,if_neg h3]
  ·rw[if_pos h1,if_neg h2]
 ·rw[if_neg h1]
theorem kz19 {P S a oi v} (h:Hv P S a oi v:=by intro w hSw;(obtain⟨⟨c0,c1,c2,c3,c4⟩,d0,d1,d2,d3,d4⟩:=KC.out w hSw);go_simp;try (with_reducible rfl)):Hv P S a oi v:=h
theorem kz20 {P S a oi v} (h:Hv P S a oi v:=by intro w hSw;(obtain⟨⟨c0,c1,c2,c3,c4⟩,d0,d1,d2,d3,d4⟩:=KC.out w hSw;have hif:=HIF.out);go_simp;try (with_reducible rfl)):Hv P S a oi v:=h
theorem oy3 (A:Option Addr) (n c:Nat) (a:List It) (B:Option Addr) (m d:Nat) (b:List It) (w:World) (hn:n≤1000000) (hm:m≤1000000) (ra:Row w.heap.size w A n 5 (itc a)) (rb:Row w.heap.size w B m 5 (itc b)):
  Calls Tryz.prog 17 #[.slice A n c,.slice B m d] w fun e w'=>e=.returned (.bool (decide (a=b)))∧Below w.heap.size w w':=by
 have hna:=ra.uz;have hmb:=rb.uz;obtain⟨r,hr⟩:=n_ (decide (a=b));rw[←hr]
 by_cases hnm:n=m
 ·subst hnm
  have HR:=H_ hr;clear hr;go_enter Tryz.func17,Tryz.ntmps17;go_wp2
  go_loopw [5] (fun i wr=>∃k:Nat,k≤n∧i=.int .i64 (k:Int)∧Hid (a.take k=b.take k)∧Below w.heap.size w wr) (fun i _=>n - (intOf i).toNat)
  case atStart=>exact⟨0,t_ _,rfl,H_ rfl,Below.refl _ _⟩
  case round=>
   obtain⟨k,hk,rfl,HE,hbl⟩:=hrel
   by_cases hlt:k < n
   ·obtain⟨p,hl,rfl,hbk,hd⟩:=(ra.below hbl).it hlt
    obtain⟨p2,hl2,rfl,hbk2,hd2⟩:=(rb.below hbl).it hlt;have hte:a.take (k+1)=a.take k++[a[k]]:=o_ hl;have htf:b.take (k+1)=b.take k++[b[k]]:=o_ hl2;have hne:a[k]≠b[k]→a≠b:=fun h e=>by subst e;exact h rfl
    generalize a[k]=x at *;generalize b[k]=y at *;have hnq:=wj4 x y;obtain⟨q,hq⟩:=n_ (decide (x=y));rw[←hq]at hnq;have hkc:∀w',Below wr.heap.size wr w'→(w'.cell? (p.add (k *5))=some (.int .i64 x.s)∧w'.cell? ⟨(p.add (k *5)).block,(p.add (k *5)).off+1,none⟩=some (.int .i64 x.k)∧w'.cell? ⟨(p.add (k *5)).block,(p.add (k *5)).off+2,none⟩=some (.int .u64 (x.t:Int))∧w'.cell? ⟨(p.add (k *5)).block,(p.add (k *5)).off+3,none⟩=some (.int .u64 (x.v:Int))∧w'.cell? ⟨(p.add (k *5)).block,(p.add (k *5)).off+4,none⟩=some (.int .i64 x.x))∧w'.cell? (p2.add (k *5))=some (.int .i64 y.s)∧w'.cell? ⟨(p2.add (k *5)).block,(p2.add (k *5)).off+1,none⟩=some (.int .i64 y.k)∧w'.cell? ⟨(p2.add (k *5)).block,(p2.add (k *5)).off+2,none⟩=some (.int .u64 (y.t:Int))∧w'.cell? ⟨(p2.add (k *5)).block,(p2.add (k *5)).off+3,none⟩=some (.int .u64 (y.v:Int))∧w'.cell? ⟨(p2.add (k *5)).block,(p2.add (k *5)).off+4,none⟩=some (.int .i64 y.x):=fun w' hb=>by
     have h1:=hd.below (B:=wr.heap.size) (w':=w') (L_ hbk hbl.size) hb;have h2:=hd2.below (B:=wr.heap.size) (w':=w') (L_ hbk2 hbl.size) hb;exact⟨⟨h1.c0,h1.c1,h1.c2,h1.c3,h1.c4⟩,h2.c0,h2.c1,h2.c2,h2.c3,h2.c4⟩
    have KC:=H_ hkc;have HQ:=H_ hq;have HNE:=H_ hne;have HT:=H_ (d_ hte htf);have HNQ:=H_ hnq;have hwk:IntKind.i64.wrap (k:Int)=(k:Int):=F_ _ (by omega);have hkn:(k:Int) < (n:Int):=by omega
    clear hkc hq hne hte htf hd hd2 hnq
    by_cases hxy:x=y
    ·have H1:=H_ (show a.take (k+1)=b.take (k+1) by rw[HT.out.1,HT.out.2,HE.out,hxy])
     subst hxy;clear HNQ HQ;go_wp2_with fail;refine wp_region_held_drew (S:=fun w'=>Below wr.heap.size wr w') rfl (ak b0_) (fun hSw=>?_);refine w_v 0 hSw ?_ (k:=kz19);go_simp;refine w_v 1 hSw ?_ (k:=kz19);go_simp;refine w_v 2 hSw ?_ (k:=kz19);go_simp;refine w_v 3 hSw ?_ (k:=kz19);go_simp;refine w_v 4 hSw ?_ (k:=kz19);go_simp;refine w_v 5 hSw ?_ (k:=kz19);go_simp;refine w_v 6 hSw ?_ (k:=kz19);go_simp;refine w_v 7 hSw ?_ (k:=kz19);go_simp;refine w_v 8 hSw ?_ (k:=kz19);go_simp;refine wpAnyH_done (by kernel_rfl) ?_ _;have hby:=hbl.trans (hSw.mono hbl.size);clear hSw KC;go_wp2;go_roundw
     case rel=>exact⟨k+1,by omega,by go_num,H1.out,hby⟩
     case measure=>simp[intOf];omega
    ·have hrf:r=false:=by
      rw[HR.out];simpa using HNE.out hxy
     have H1:=H_ hrf;have HIF:=H_ (fun(α:Type) (A B:α)=>ik5 hxy A B);clear hrf hxy HNQ HQ;go_wp2_with fail;refine wp_region_held_drew (S:=fun w'=>Below wr.heap.size wr w') rfl (ak b0_) (fun hSw=>?_);refine w_v 0 hSw ?_ (k:=kz20);go_simp;refine w_v 1 hSw ?_ (k:=kz20);go_simp;refine w_v 2 hSw ?_ (k:=kz20);go_simp;refine w_v 3 hSw ?_ (k:=kz20);go_simp;refine w_v 4 hSw ?_ (k:=kz20);go_simp;refine w_v 5 hSw ?_ (k:=kz20);go_simp;refine w_v 6 hSw ?_ (k:=kz20);go_simp;refine w_v 7 hSw ?_ (k:=kz20);go_simp;refine w_v 8 hSw ?_ (k:=kz20);go_simp;refine wpAnyH_done (by kernel_rfl) ?_ _;have hby:=hbl.trans (hSw.mono hbl.size);clear hSw KC;go_wp2;go_ret;exact⟨gy H1.out.symm,hby⟩
   ·have hall:r=true:=by
     have:=HE.out;rw[i_ (by omega),i_ (by omega)]at this;rw[HR.out,this];simp
    have H1:=H_ hall;clear hall;go_wp2;go_ret;exact⟨gy H1.out.symm,hbl⟩
 ·have hne:r=false:=by
   rw[hr];have:a≠b:=fun e=>hnm (by rw[←hna,←hmb,e]);simpa using this
  have e1:((n:Int)==(m:Int))=false:=by rw[beq_eq_false_iff_ne];omega
  have H1:=H_ hne;clear hne hr;go_enter Tryz.func17,Tryz.ntmps17;go_wp2;go_ret;exact⟨gy H1.out.symm,Below.refl _ _⟩
end
section
open Go Go.RowKit Go.Lib
def mv1 (w:World) (R:List It) (e:Ending) (w':World):Prop:=∃A' k c',e=.returned (.slice A' k c')∧k=R.length∧Its w.heap.size w' A' k c' R∧Below w.heap.size w w'
end
section
open Go Go.RowKit Go.Lib
def yx4 (w:World) (R:List It×Nat) (e:Ending) (w':World):Prop:=∃A' k c',e=.returned (.tuple #[.slice A' k c',.int .i64 (R.2:Int)])∧k=R.1.length∧Its w.heap.size w' A' k c' R.1∧Below w.heap.size w w'
theorem Its.nil (B:Nat) (w:World):Its B w none 0 0 []:=⟨⟨rfl,fun j hj=>by simp[itc]at hj⟩,x_ _,by unfold maxLen;omega,fun a ha=>by cases ha⟩
theorem bk4 (A:Option Addr) (N c:Nat) (b:List UInt8) (w:World) (hN:N≤1000000) (hNc:N≤c) (hcm:c≤maxLen) (hr:Row w.heap.size w A N 1 (bts b)):
  Calls Tryz.prog 233 #[.slice A N c] w (yx4 w (It.read b)):=by
 obtain⟨i0,hi0,hz0,hz1,hz2⟩:=info_parts rq;have hln:=hr.xk;have htk:=take_any A N c b w (by omega) hr;have hsz:=Pn.take_size (l:=b);have hre:=It.cx5 b;obtain⟨R,hR⟩:=n_ (It.read b);rw[←hR]at hre ⊢;obtain⟨n,hn⟩:=n_ ((Pn.take b).1);obtain⟨sz,hsze⟩:=n_ ((Pn.take b).2.1);obtain⟨er,her⟩:=n_ ((Pn.take b).2.2);rw[←hn,←hsze,←her]at htk;rw[←hn,←hsze,←her]at hre;rw[←her,←hsze]at hsz;clear hR hn hsze her;have HTK:=H_ htk
 by_cases he:er=0
 ·subst he
  have hszl:=hsz rfl;rw[if_pos rfl]at hre
  by_cases h20:2000 < n
  ·rw[if_pos h20]at hre
   have h20i:(2000:Int) < (n:Int):=by omega
   have HRE:=H_ hre;clear htk hre hsz hr;go_enter Tryz.func233,Tryz.ntmps233;go_wp2_with fail;refine HTK.out.mono ?_;rintro e w1 ⟨rfl,hw1⟩;subst hw1;clear HTK;go_wp2;refine bodyPost_ret (v:=.tuple #[.slice none 0 0,.int .i64 2]) (by simp[results,go_sem]) rfl ⟨none,0,0,by rw[HRE.out];rfl,by rw[HRE.out];rfl,by rw[HRE.out];exact Its.nil _ _,Below.refl _ _⟩
  ·rw[if_neg h20]at hre
   have h20i:((2000:Int) < (n:Int))=False:=eq_false (by omega);obtain⟨A2,hA2⟩:∃A2,(if c=sz then A else Option.map (fun x=>x.add sz) A)=A2:=⟨_,rfl⟩;have hr2:=vw1 hr (s:=sz) (by omega) (A':=A2) (fun hlt=>by rw[←hA2,if_neg (by omega)]);have hszn:sz≤N:=by omega
   have hszni:(sz:Int)≤(N:Int):=by omega
   have hszc:sz≤c:=by omega
   have hszci:(sz:Int)≤(c:Int):=by omega
   have HRE:=H_ hre;have HR2:=H_ hr2;clear htk hre hsz hr hr2 hszl;go_enter Tryz.func233,Tryz.ntmps233;go_wp2_with fail;refine HTK.out.mono ?_;rintro e w1 ⟨rfl,hw1⟩;subst hw1;clear HTK;go_wp2_with fail
   go_loopw [0,7,28] (fun bv o i wr=>∃(k m:Nat) (A3:Option Addr) (c3:Nat) (r:List UInt8) (out:List It) (A4:Option Addr) (c4:Nat),k≤n∧bv=.slice A3 m c3∧o=.slice A4 k c4∧i=.int .u64 (k:Int)∧Hid (It.takes n (b.drop sz) []=It.takes (n - k) r out∧out.length=k∧Row w.heap.size wr A3 m 1 (bts r)∧m≤c3∧c3≤maxLen∧m≤N∧wr.ownsRow w.heap.size 36 5 (.slice A4 k c4) k (itc out))∧Below w.heap.size w wr) (fun _ _ i _=>n - (intOf i).toNat)
   case atStart=>exact⟨0,N - sz,A2,c - sz,b.drop sz,[],none,0,t_ _,rfl,rfl,rfl,H_ ⟨rfl,rfl,HR2.out,by omega,by unfold maxLen at *;omega,by omega,E_ _ _ _ _⟩,Below.refl _ _⟩
   case round=>
    obtain⟨k,m,A3,c3,r,out,A4,c4,hkn,rfl,rfl,rfl,HK,hbl⟩:=hrel
    by_cases hk:k < n
    ·have hki:(k:Int) < (n:Int):=by omega
     have hwk:IntKind.u64.wrap ((k:Int)+1)=((k+1:Nat):Int):=by rw[IntKind.wrap_u64];omega
     obtain⟨h1,h2,h3,h4,h5,h6,h7⟩:=HK.out;have hon:=one_any A3 m c3 r wr (by omega) h4 h5 w.heap.size hbl.size h3;rw[show n - k=(n - (k+1))+1 by omega,It.ty3]at h1;have hb1:=fun w'=>own_below (w':=w') h7;generalize It.take1 r=Q at *;obtain⟨x,r2,er⟩:=Q;simp only at h1;have HON:=H_ hon;have H1:=H_ h1;have HB1:=H_ hb1;clear hon h1 h3 h7 hb1;go_wp2_with fail;refine HON.out.mono ?_;rintro e w2 ⟨A5,m5,c5,rfl,z1,z5,z2,z3,z4⟩;have ho2:=HB1.out _ z4;have hb2:=hbl.trans (z4.mono hbl.size)
     by_cases he:er=0
     ·subst he
      have h1:=H1.out;rw[if_pos rfl]at h1;have hz4:=z4.mono hbl.size;have hX1:=hz4.alloc hb2.size (.cells #[.int .i64 x.s,.int .i64 x.k,.int .u64 (x.t:Int),.int .u64 (x.v:Int),.int .i64 x.x] 36);have ho1:=ho2.alloc (.cells #[.int .i64 x.s,.int .i64 x.k,.int .u64 (x.t:Int),.int .u64 (x.v:Int),.int .i64 x.x] 36);have hx1:BoxO (w2.alloc (.cells #[.int .i64 x.s,.int .i64 x.k,.int .u64 (x.t:Int),.int .u64 (x.v:Int),.int .i64 x.x] 36)) 36 w2.heap.size x.cells:=BoxO.new w2 #[.int .i64 x.s,.int .i64 x.k,.int .u64 (x.t:Int),.int .u64 (x.v:Int),.int .i64 x.x] 36;have b0:=hx1.cell 0;have b1:=hx1.cell 1;have b2:=hx1.cell 2;have b3:=hx1.cell 3;have b4:=hx1.cell 4;simp only[It.cells,gE0,gE1]at b0 b1 b2 b3 b4;have hsz1:(w2.alloc (.cells #[.int .i64 x.s,.int .i64 x.k,.int .u64 (x.t:Int),.int .u64 (x.v:Int),.int .i64 x.x] 36)).heap.size=w2.heap.size+1:=by simp
      have hX2:=hX1.alloc (by have:=hb2.size;omega) (.cells #[.int .i64 x.s,.int .i64 x.k,.int .u64 (x.t:Int),.int .u64 (x.v:Int),.int .i64 x.x] 36);have ho3:=ho1.alloc (.cells #[.int .i64 x.s,.int .i64 x.k,.int .u64 (x.t:Int),.int .u64 (x.v:Int),.int .i64 x.x] 36);have hx2:BoxO ((w2.alloc (.cells #[.int .i64 x.s,.int .i64 x.k,.int .u64 (x.t:Int),.int .u64 (x.v:Int),.int .i64 x.x] 36)).alloc (.cells #[.int .i64 x.s,.int .i64 x.k,.int .u64 (x.t:Int),.int .u64 (x.v:Int),.int .i64 x.x] 36)) 36 (w2.heap.size+1) x.cells:=by rw[←hsz1];exact BoxO.new _ #[.int .i64 x.s,.int .i64 x.k,.int .u64 (x.t:Int),.int .u64 (x.v:Int),.int .i64 x.x] 36
      have hsz2:((w2.alloc (.cells #[.int .i64 x.s,.int .i64 x.k,.int .u64 (x.t:Int),.int .u64 (x.v:Int),.int .i64 x.x] 36)).alloc (.cells #[.int .i64 x.s,.int .i64 x.k,.int .u64 (x.t:Int),.int .u64 (x.v:Int),.int .i64 x.x] 36)).heap.size=w2.heap.size+1+1:=by simp
      have HR:=H_ (lx1 hx2);have HO:=H_ ho3;have HB:=H_ hX2;have HS2:=H_ (d_ hsz2 hb2.size);have HZ:=H_ (d_ z1 (d_ z2 h1));have hitc:itc out++x.cells=itc (out++[x]):=by simp[itc]
      have HX:=H_ hitc;have hk2:k≤2000:=by omega
      have H2:=H_ h2;clear hz4 hX1 ho1 hx1 hX2 ho3 hx2 hsz1 hsz2 ho2 hb2 z1 z4 h1 hitc H1 HB1 h2;unfold It.val;go_wp2_with (at_builtin;refine iy ?_);refine gz (jq rfl (.tmp 39) (.tmp 41) _ rfl w.heap.size 36 i0 _ 5 40 Tryz.underlying31 hi0 hz0 hz1 hz2 rfl (by omega) wr HB.out (h_ hbl.size HB.out.size) _ k (itc out) rfl HO.out _ _ 1 1 x.cells rfl HR.out (fun v hv=>xq [x] v (by simpa [itc] using hv)) (k+1) _ rfl HX.out (by unfold maxLen;omega) (by omega) ?_);intro A6 c6 w5 q1 q2 q3 q4 q5;have HF:=H_ (d_ q1 (HZ.out.1.below q2));have hbz:=hbl.trans q2;clear q1 q2 q3 HR HO HB b0 b1 b2 b3 b4;go_wp2;go_roundw
      case rel=>exact⟨k+1,m5,A5,c5,r2,out++[x],A6,c6,by omega,rfl,rfl,by go_num,H_ ⟨HZ.out.2.2,by rw[e_,H2.out];rfl,HF.out.2,HZ.out.2.1,by omega,by omega,HF.out.1⟩,hbz⟩
      case measure=>simp[intOf];omega
     ·have h1:=H1.out
      rw[if_neg he]at h1;have he3:((er:Int)==0)=false:=by simp;omega
      have hR:R=([],er):=by
       have:=HRE.out;rw[h1]at this;rw[this,if_neg he]
      have HRR:=H_ hR;clear h1 z1 z4 ho2 hR HON;unfold It.val;go_wp2;refine bodyPost_ret (v:=.tuple #[.slice none 0 0,.int .i64 (er:Int)]) (by simp[results,go_sem]) rfl ⟨none,0,0,by rw[HRR.out],by rw[HRR.out];rfl,by rw[HRR.out];exact Its.nil _ _,?_⟩;exact hb2.alloc hb2.size _
    ·obtain rfl:k=n:=by omega
     have hki:((k:Int) < (k:Int))=False:=eq_false (by omega);obtain⟨h1,h2,h3,h4,h5,h6,h7⟩:=HK.out;rw[bF_]at h1;have hre:R=if r=[]∧out.all It.ok=true then (out,0) else ([],3):=by
      have:=HRE.out;rw[h1]at this;exact this
     have hrl:=h3.xk
     by_cases hm:0 < m
     ·have hmi:(0:Int) < (m:Int):=by omega
      rw[if_neg (fun h=>by rw[h.1]at hrl;simp at hrl;omega)]at hre;have HRR:=H_ hre;clear h1 hre h3 h7;go_wp2;refine bodyPost_ret (v:=.tuple #[.slice none 0 0,.int .i64 3]) (by simp[results,go_sem]) rfl ⟨none,0,0,by rw[HRR.out];rfl,by rw[HRR.out];rfl,by rw[HRR.out];exact Its.nil _ _,hbl⟩
     ·have hmi:((0:Int) < (m:Int))=False:=eq_false (by omega)
      have hr0:r=[]:=U_.1 (by omega);have hal:=px1 A4 k c4 out wr (by omega) (Row.own h7);obtain⟨ab,hab⟩:=n_ (out.all It.ok);rw[←hab]at hal hre;simp only[hr0,true_and]at hre;have HAL:=H_ hal;obtain⟨A5,c5,hv,hqc,hqm,hlow⟩:=dw h7;injection hv with e1 e2 e3;subst e1 e3;have h7b:=fun w'=>own_below (w':=w') h7;have H7:=H_ (d_ h7b (d_ hqc (d_ hqm hlow)));have H2:=H_ h2;clear h1 h3 h7 h7b hal hab hlow hqc hqm h2
      cases ab with
      |true=>
       rw[if_pos rfl]at hre;have HRR:=H_ hre;clear hre;go_wp2_with fail;refine HAL.out.mono ?_;rintro e w2 ⟨rfl,hb2⟩;have hits:Its w.heap.size w2 A4 k c4 out:=⟨Row.own (H7.out.1 _ hb2),H7.out.2.1,H7.out.2.2.1,fun p hp=>(H7.out.2.2.2 p hp).1⟩;have HI:=H_ (d_ hits (hbl.trans (hb2.mono hbl.size)));clear hits hb2 HAL H7;go_wp2;refine bodyPost_ret (v:=.tuple #[.slice A4 k c4,.int .i64 0]) (by simp[results,go_sem]) rfl ⟨A4,k,c4,by rw[HRR.out];rfl,by rw[HRR.out];exact H2.out.symm,by rw[HRR.out];exact HI.out.1,HI.out.2⟩
      |false=>
       rw[if_neg (by simp)]at hre;have HRR:=H_ hre;clear hre;go_wp2_with fail;refine HAL.out.mono ?_;rintro e w2 ⟨rfl,hb2⟩;have HI:=H_ (hbl.trans (hb2.mono hbl.size));clear hb2 HAL H7;go_wp2;refine bodyPost_ret (v:=.tuple #[.slice none 0 0,.int .i64 3]) (by simp[results,go_sem]) rfl ⟨none,0,0,by rw[HRR.out];rfl,by rw[HRR.out];rfl,by rw[HRR.out];exact Its.nil _ _,HI.out⟩
 ·rw[if_neg he]at hre
  have he3:((er:Int)==0)=false:=by simp;omega
  have HRE:=H_ hre;clear htk hre hsz hr;go_enter Tryz.func233,Tryz.ntmps233;go_wp2_with fail;refine HTK.out.mono ?_;rintro e w1 ⟨rfl,hw1⟩;subst hw1;clear HTK;go_wp2;refine bodyPost_ret (v:=.tuple #[.slice none 0 0,.int .i64 (er:Int)]) (by simp[results,go_sem]) rfl ⟨none,0,0,by rw[HRE.out],by rw[HRE.out];rfl,by rw[HRE.out];exact Its.nil _ _,Below.refl _ _⟩
end
section
open Go Go.RowKit Go.Lib
theorem Fr.yv3 (l:List UInt8) (p:Nat):(Fr.take l p).2.2.2≠1∧(Fr.take l p).2.1.length≤l.length:=by
 unfold Fr.take;split
 ·simp
 ·split
  ·simp
  ·split
   ·simp
   ·split
    ·simp
    ·split
     ·simp
     ·refine⟨by simp,?_⟩
      simp only[u_,B_];omega
theorem ax4 (a:It) (w:World):Calls Tryz.prog 340 #[a.val] w fun e w'=>e=.returned (.bool (!a.ok))∧Below w.heap.size w w':=by
 have hok:=fun W=>nk1 a W;unfold It.val at hok ⊢;go_enter Tryz.func340,Tryz.ntmps340;go_wp2_with fail;refine(hok _).mono ?_;rintro e w1 ⟨rfl,hb⟩;go_wp2;go_ret;exact⟨rfl,az (b_ _ _) hb⟩
theorem fx3 (A:Option Addr) (n c:Nat) (l:List It) (w:World) (hn:n≤1000000) (hr:Row w.heap.size w A n 5 (itc l)):
  Calls Tryz.prog 298 #[.slice A n c] w fun e w'=>e=.returned (.bool (Tb.may l))∧Below w.heap.size w w':=by
 have hnn:=hr.uz;have hri:=jj2 A n c l w hn hr;have hca:=fun(W:World) (hb:Below w.heap.size w W)=>qy1 340 (fun _ _=>rfl) #[] (fun x=>!x.ok) A n c l W hn ((hr.below hb).up hb.size) (fun x w1 _=>ax4 x w1);simp only[lw2]at hca;obtain⟨rb,hrb⟩:=n_ (decide (uq l));obtain⟨ab,hab⟩:=n_ (l.all It.ok);have hm:Tb.may l=(decide (0 < n) &&rb&&ab):=by
  unfold Tb.may;rw[hrb,hab]
  congr 2
  rw[decide_eq_decide,←hnn,bB_]
 rw[←hrb]at hri;rw[←hab]at hca;rw[hm];have HRI:=H_ hri;have HCA:=H_ hca;clear hri hca hm hr hrb hab
 by_cases h0:0 < n
 ·have h0i:(0:Int) < (n:Int):=by omega
  have hd:decide (0 < n)=true:=decide_eq_true h0;rw[hd];go_enter Tryz.func298,Tryz.ntmps298;go_wp2_with fail;refine HRI.out.mono ?_;rintro e w1 ⟨rfl,hb1⟩
  cases rb with
  |false=>
   go_wp2;go_ret;exact⟨rfl,hb1⟩
  |true=>
   go_wp2_with fail;refine(HCA.out _ hb1).mono ?_;rintro e w2 ⟨rfl,hb2⟩;have hbz:=az hb1 hb2;go_wp2;go_ret;exact⟨gy (by simp),hbz⟩
 ·have h0i:((0:Int) < (n:Int))=False:=eq_false (by omega)
  have hd:decide (0 < n)=false:=decide_eq_false h0;rw[hd];go_enter Tryz.func298,Tryz.ntmps298;go_wp2;go_ret;exact⟨rfl,Below.refl _ _⟩
theorem mk4 (A:Option Addr) (N c:Nat) (b:List UInt8) (L:Option Addr) (m d:Nat) (l:List It) (w:World) (hN:N≤1000000) (hNc:N≤c) (hcm:c≤maxLen) (hm:m≤100) (hr:Row w.heap.size w A N 1 (bts b)) (hq:Row w.heap.size w L m 5 (itc l)) (hmay:Tb.may l=true) (hf:∀x∈l,x.fit):
  Calls Tryz.prog 263 #[.slice A N c,.slice L m d] w fun e w'=>∃A' M c',e=.returned (.tuple #[.slice A' M c',.int .i64 0])∧
   w'.ownsRow w.heap.size 5 1 (.slice A' M c') M (bts (b++Fr.put 2 (It.bytes l)))∧M≤c'∧c'≤maxLen∧Below w.heap.size w w':=by
 have hmn:=hq.uz;have hbm:=fx3 L m d l w (by omega) hq;rw[hmay]at hbm;have hok:∀x∈l,x.ok=true∧x.fit:=fun x hx=>by
  simp only[Tb.may,K_,al_]at hmay;exact⟨hmay.2 x hx,hf x hx⟩
 have hib:=fun(W:World) (hb:Below w.heap.size w W)=>sx1 none 0 0 [] L m d l W (by omega) (by omega) Row.nil_ ((hq.below hb).up hb.size) hok;simp only[y_]at hib;have hbl:=It.aq1 l;have hm1:((100:Int) < (m:Int))=False:=eq_false (by omega);have HBM:=H_ hbm;have HIB:=H_ hib;clear hbm hib hq hok hmay hf;go_enter Tryz.func263,Tryz.ntmps263;go_wp2_with fail;refine HBM.out.mono ?_;rintro e w1 ⟨rfl,hb1⟩;go_wp2_with fail;refine(HIB.out _ hb1).mono ?_;rintro e w2 ⟨A1,M1,c1,rfl,ho1,hc1,hmx,hb2⟩;have hML:M1=(It.bytes l).length:=by
  have:=ho1.1;rw[pq]at this;omega
 have hb12:=az hb1 hb2;have hfp:=iv1 A N c b 2 A1 M1 c1 (It.bytes l) w2 (by omega) hNc hcm ((hr.below hb12).up hb12.size) (by omega) (by omega) (by omega) hc1 hmx (Row.own ho1);have HFP:=H_ hfp;clear hfp ho1 HIB HBM hML hr;go_wp2_with fail;refine HFP.out.mono ?_;rintro e w3 ⟨A2,M2,c2,rfl,ho2,hc2,hm2,hb3⟩;have hob:=own_base ho2 hb12.size;have hbz:=az hb12 hb3;have HF:=H_ (d_ hob (d_ hc2 (d_ hm2 hbz)));clear ho2 hob hbz HFP;go_wp2;go_ret2;exact⟨A2,M2,c2,rfl,HF.out⟩
def cx1 (b:List UInt8) (p:Nat):List It×Nat×Nat:=
 if (Fr.take b p).2.2.2=0∧(Fr.take b p).1=2∧(It.read (Fr.take b p).2.1).2=0∧(It.read (Fr.take b p).2.1).1.length≤100∧Tb.may (It.read (Fr.take b p).2.1).1=true then
  ((It.read (Fr.take b p).2.1).1,(Fr.take b p).2.2.1,0) else ([],0,9)
def eq3 (w:World) (R:List It×Nat×Nat) (e:Ending) (w':World):Prop:=∃A' k c',e=.returned (.tuple #[.slice A' k c',.int .i64 (R.2.1:Int),.int .i64 (R.2.2:Int)])∧k=R.1.length∧Its w.heap.size w' A' k c' R.1∧Below w.heap.size w w'
theorem xj3 (A:Option Addr) (N c:Nat) (b:List UInt8) (p:Nat) (w:World) (hN:N≤1000000) (hNc:N≤c) (hcm:c≤maxLen) (hr:Row w.heap.size w A N 1 (bts b)) (hp:p≤N):
  Calls Tryz.prog 236 #[.slice A N c,.int .i64 (p:Int)] w (eq3 w (cx1 b p)):=by
 have hln:=hr.xk;have hft:=cv4 A N c b p w (by omega) hNc hcm hr hp;obtain⟨hn1,hbl⟩:=Fr.yv3 b p;obtain⟨R,hR⟩:=n_ (cx1 b p);rw[←hR];unfold cx1 at hR;generalize Fr.take b p=T at *;obtain⟨kd,body,nx,er⟩:=T;simp only at hft hn1 hbl hR;have hbad:∀w',Below w.heap.size w w'→R=([],0,9)→eq3 w R (.returned (.tuple #[.slice none 0 0,.int .i64 0,.int .i64 9])) w':=fun w' hb e=>by
  rw[e];exact⟨none,0,0,rfl,rfl,Its.nil _ _,hb⟩
 have HFT:=H_ hft;have HR:=H_ hR;have HBAD:=H_ hbad;have he1:((er:Int)==1)=false:=by simp;omega
 clear hft hR hbad hr
 by_cases he:er=0
 ·by_cases hk:kd=2
  ·subst he hk
   have hR2:=HR.out;have hbN:body.length≤1000000:=by omega
   obtain⟨Q,hQ⟩:=n_ (It.read body);rw[←hQ]at hR2;obtain⟨q,qe⟩:=Q;simp only[true_and]at hR2;have hrd:=fun(A1:Option Addr) (M1 c1:Nat) (W:World) h1 h2 h3 h4=>bk4 A1 M1 c1 body W h1 h2 h3 h4;simp only[←hQ]at hrd;have HRD:=H_ hrd;have HR2:=H_ hR2;clear hR2 hrd hQ HR;go_enter Tryz.func236,Tryz.ntmps236;go_wp2_with fail;refine HFT.out.mono ?_;rintro e w1 ⟨A1,M1,c1,rfl,ho1,hc1,hm1,hb1⟩;have hML:M1=body.length:=by
    have:=ho1.1;rw[pq]at this;omega
   have hrd1:=HRD.out A1 M1 c1 w1 (by omega) hc1 hm1 (Row.own ho1);have HR1:=H_ hrd1;clear hrd1 ho1 HFT HRD hML;go_wp2_with fail;refine HR1.out.mono ?_;rintro e w2 ⟨A2,k,c2,rfl,hkl,hits,hb2⟩;simp only at hkl hits;have hb12:=az hb1 hb2;have hlow:Its w.heap.size w2 A2 k c2 q:=⟨hits.row,hits.nc,hits.cm,fun a ha=>h_ hb1.size (hits.low a ha)⟩;have HL:=H_ hlow;have HKL:=H_ hkl;have HB12:=H_ hb12;clear hits hb2 hb12 HR1 hlow hb1
   by_cases hqe:qe=0
   ·subst hqe
    by_cases hk1:k≤100
    ·have hk1i:((100:Int) < (k:Int))=False:=eq_false (by omega)
     have hbm:=fx3 A2 k c2 q w2 (by omega) HL.out.row;obtain⟨mb,hmb⟩:=n_ (Tb.may q);rw[←hmb]at hbm;have HBM:=H_ hbm;have HMB:=H_ hmb;clear hbm hkl hmb;go_wp2_with fail;refine HBM.out.mono ?_;rintro e w3 ⟨rfl,hb3⟩;have hb13:=az HB12.out hb3
     cases mb with
     |true=>
      have hRR:R=(q,nx,0):=by rw[HR2.out,if_pos ⟨trivial,by rw[←HKL.out];exact hk1,HMB.out.symm⟩]
      have hit3:Its w.heap.size w3 A2 k c2 q:=⟨(HL.out.row.below hb3).up hb3.size,HL.out.nc,HL.out.cm,HL.out.low⟩;have HF:=H_ (show eq3 w R (.returned (.tuple #[.slice A2 k c2,.int .i64 (nx:Int),.int .i64 0])) w3 from by rw[hRR];exact⟨A2,k,c2,rfl,HKL.out,hit3,hb13⟩);clear hRR hit3 hb13 hb3 HBM;go_wp2;refine bodyPost_ret (v:=.tuple #[.slice A2 k c2,.int .i64 (nx:Int),.int .i64 0]) (by simp[results,go_sem]) rfl HF.out
     |false=>
      have hRR:R=([],0,9):=by rw[HR2.out,if_neg (by rw[←HMB.out];simp)]
      have HF:=H_ (HBAD.out w3 hb13 hRR);clear hRR hb13 hb3 HBM;go_wp2;refine bodyPost_ret (v:=.tuple #[.slice none 0 0,.int .i64 0,.int .i64 9]) (by simp[results,go_sem]) rfl HF.out
    ·have hk1i:(100:Int) < (k:Int):=by omega
     have hRR:R=([],0,9):=by rw[HR2.out,if_neg (by rw[←HKL.out];exact fun h=>hk1 h.2.1)]
     have HF:=H_ (HBAD.out w2 HB12.out hRR);clear hRR hkl;go_wp2;refine bodyPost_ret (v:=.tuple #[.slice none 0 0,.int .i64 0,.int .i64 9]) (by simp[results,go_sem]) rfl HF.out
   ·have hqe3:((qe:Int)==0)=false:=by simp;omega
    have hRR:R=([],0,9):=by rw[HR2.out,if_neg (fun h=>hqe h.1)]
    have HF:=H_ (HBAD.out w2 HB12.out hRR);clear hRR hkl;go_wp2;refine bodyPost_ret (v:=.tuple #[.slice none 0 0,.int .i64 0,.int .i64 9]) (by simp[results,go_sem]) rfl HF.out
  ·have hk3:((kd:Int)==2)=false:=by simp;omega
   subst he;have hR9:R=([],0,9):=by rw[HR.out,if_neg (by simp[hk])]
   have H9:=H_ hR9;clear hR9;go_enter Tryz.func236,Tryz.ntmps236;go_wp2_with fail;refine HFT.out.mono ?_;rintro e w1 ⟨A1,M1,c1,rfl,ho1,hc1,hm1,hb1⟩;clear ho1 HFT;go_wp2;refine bodyPost_ret (v:=.tuple #[.slice none 0 0,.int .i64 0,.int .i64 9]) (by simp[results,go_sem]) rfl (HBAD.out _ hb1 H9.out)
 ·have he3:((er:Int)==0)=false:=by simp;omega
  have hR9:R=([],0,9):=by rw[HR.out,if_neg (by simp[he])]
  have H9:=H_ hR9;clear hR9;go_enter Tryz.func236,Tryz.ntmps236;go_wp2_with fail;refine HFT.out.mono ?_;rintro e w1 ⟨A1,M1,c1,rfl,ho1,hc1,hm1,hb1⟩;clear ho1 HFT;go_wp2;refine bodyPost_ret (v:=.tuple #[.slice none 0 0,.int .i64 0,.int .i64 9]) (by simp[results,go_sem]) rfl (HBAD.out _ hb1 H9.out)
end
end Go.Proofs.YthjdpplgfdihoaaGreatDoor
