/- Texts ItemN, Step, DiskF, DiskG, DiskH, StepB, DiskI, ManB, Once, OnceB in one. No conditions. -/
import Derived.Test.YthjdpplgfdihoaaGreatDoorBunAA
import Derived.Test.YthjdpplgfdihoaaGreatDoorBunAJ
import Derived.Test.YthjdpplgfdihoaaGreatDoorBunAI
import Derived.Deep.RegionLaw
import Derived.Test.YthjdpplgfdihoaaGreatDoorBunAB
import Derived.StillTailTactics
import Derived.Deep.RegionWith
import Derived.Test.YthjdpplgfdihoaaGreatDoorBunAC
import Derived.Test.YthjdpplgfdihoaaGreatDoorBunAD
import Derived.Test.YthjdpplgfdihoaaGreatDoorRows
import Derived.Tactics
import Derived.Tactics2
import Derived.Defers
import Derived.Laws.Pointers
import Derived.Laws.LoneSync
import Derived.Laws.NewBlocks
import Derived.RegionTactic
import Derived.RegionCalls
import Derived.ChangeAlike

set_option linter.unusedSimpArgs false
set_option linter.unusedVariables false
set_option maxRecDepth 100000
set_option maxHeartbeats 16000000
namespace Go.Proofs.YthjdpplgfdihoaaGreatDoor
section
open Go Go.RowKit Go.Lib
def uk4 (w:World) (R:List It×Nat) (e:Ending) (w':World):Prop:=∃A' k c',e=.returned (.tuple #[.slice A' k c',.int .i64 (R.2:Int)])∧k=R.1.length∧Its w.heap.size w' A' k c' R.1∧Below w.heap.size w w'
theorem Its.nil (B:Nat) (w:World):Its B w none 0 0 []:=⟨⟨rfl,fun j hj=>by simp[itc]at hj⟩,Nat.le_refl _,by unfold maxLen;omega,fun a ha=>by cases ha⟩
theorem yv3 (A:Option Addr) (N c:Nat) (b:List UInt8) (w:World) (hN:N≤1000000) (hNc:N≤c) (hcm:c≤maxLen) (hr:Row w.heap.size w A N 1 (bts b)):
  Calls Tryz.prog 233 #[.slice A N c] w (uk4 w (It.read b)):=by
 obtain⟨i0,hi0,hz0,hz1,hz2⟩:=info_parts az1;have hln:=hr.yz;have htk:=take_any A N c b w (by omega) hr;have hsz:=Pn.take_size (l:=b);have hre:=It.vx4 b;obtain⟨R,hR⟩:∃R,R=It.read b:=⟨_,rfl⟩;rw[←hR]at hre ⊢;obtain⟨n,hn⟩:∃n,n=(Pn.take b).1:=⟨_,rfl⟩;obtain⟨sz,hsze⟩:∃sz,sz=(Pn.take b).2.1:=⟨_,rfl⟩;obtain⟨er,her⟩:∃er,er=(Pn.take b).2.2:=⟨_,rfl⟩;rw[←hn,←hsze,←her]at htk;rw[←hn,←hsze,←her]at hre;rw[←her,←hsze]at hsz;clear hR hn hsze her;have HTK:=Lib.hid htk
 by_cases he:er=0
 ·subst he
  have hszl:=hsz rfl;rw[if_pos rfl]at hre
  by_cases h20:2000 < n
  ·rw[if_pos h20]at hre
   have h20i:(2000:Int) < (n:Int):=by omega
   have HRE:=Lib.hid hre;clear htk hre hsz hr;go_enter Tryz.func233,Tryz.ntmps233;go_wp2_with fail;refine HTK.out.mono ?_;rintro e w1 ⟨rfl,hw1⟩;subst hw1;clear HTK;go_wp2;refine bodyPost_ret (v:=.tuple #[.slice none 0 0,.int .i64 2]) (by simp[results,go_sem]) rfl ⟨none,0,0,by rw[HRE.out];rfl,by rw[HRE.out];rfl,by rw[HRE.out];exact Its.nil _ _,Below.refl _ _⟩
  ·rw[if_neg h20]at hre
   have h20i:((2000:Int) < (n:Int))=False:=eq_false (by omega);obtain⟨A2,hA2⟩:∃A2,(if c=sz then A else Option.map (fun x=>x.add sz) A)=A2:=⟨_,rfl⟩;have hr2:=gk1 hr (s:=sz) (by omega) (A':=A2) (fun hlt=>by rw[←hA2,if_neg (by omega)]);have hszn:sz≤N:=by omega
   have hszni:(sz:Int)≤(N:Int):=by omega
   have hszc:sz≤c:=by omega
   have hszci:(sz:Int)≤(c:Int):=by omega
   have HRE:=Lib.hid hre;have HR2:=Lib.hid hr2;clear htk hre hsz hr hr2 hszl;go_enter Tryz.func233,Tryz.ntmps233;go_wp2_with fail;refine HTK.out.mono ?_;rintro e w1 ⟨rfl,hw1⟩;subst hw1;clear HTK;go_wp2_with fail
   go_loopw [0,7,28] (fun bv o i wr=>∃(k m:Nat) (A3:Option Addr) (c3:Nat) (r:List UInt8) (out:List It) (A4:Option Addr) (c4:Nat),k≤n∧bv=.slice A3 m c3∧o=.slice A4 k c4∧i=.int .u64 (k:Int)∧Hid (It.takes n (b.drop sz) []=It.takes (n - k) r out∧out.length=k∧Row w.heap.size wr A3 m 1 (bts r)∧m≤c3∧c3≤maxLen∧m≤N∧wr.ownsRow w.heap.size 36 5 (.slice A4 k c4) k (itc out))∧Below w.heap.size w wr) (fun _ _ i _=>n - (intOf i).toNat)
   case atStart=>exact⟨0,N - sz,A2,c - sz,b.drop sz,[],none,0,Nat.zero_le _,rfl,rfl,rfl,Lib.hid ⟨rfl,rfl,HR2.out,by omega,by unfold maxLen at *;omega,by omega,World.ownsRow_nil _ _ _ _⟩,Below.refl _ _⟩
   case round=>
    obtain⟨k,m,A3,c3,r,out,A4,c4,hkn,rfl,rfl,rfl,HK,hbl⟩:=hrel
    by_cases hk:k < n
    ·have hki:(k:Int) < (n:Int):=by omega
     have hwk:IntKind.u64.wrap ((k:Int)+1)=((k+1:Nat):Int):=by rw[IntKind.wrap_u64];omega
     obtain⟨h1,h2,h3,h4,h5,h6,h7⟩:=HK.out;have hon:=one_any A3 m c3 r wr (by omega) h4 h5 w.heap.size hbl.size h3;rw[show n - k=(n - (k+1))+1 by omega,It.ky3]at h1;have hb1:=fun w'=>own_below (w':=w') h7;generalize It.take1 r=Q at *;obtain⟨x,r2,er⟩:=Q;simp only at h1;have HON:=Lib.hid hon;have H1:=Lib.hid h1;have HB1:=Lib.hid hb1;clear hon h1 h3 h7 hb1;go_wp2_with fail;refine HON.out.mono ?_;rintro e w2 ⟨A5,m5,c5,rfl,z1,z5,z2,z3,z4⟩;have ho2:=HB1.out _ z4;have hb2:=hbl.trans (z4.mono hbl.size)
     by_cases he:er=0
     ·subst he
      have h1:=H1.out;rw[if_pos rfl]at h1;have hz4:=z4.mono hbl.size;have hX1:=hz4.alloc hb2.size (.cells #[.int .i64 x.s,.int .i64 x.k,.int .u64 (x.t:Int),.int .u64 (x.v:Int),.int .i64 x.x] 36);have ho1:=ho2.alloc (.cells #[.int .i64 x.s,.int .i64 x.k,.int .u64 (x.t:Int),.int .u64 (x.v:Int),.int .i64 x.x] 36);have hx1:BoxO (w2.alloc (.cells #[.int .i64 x.s,.int .i64 x.k,.int .u64 (x.t:Int),.int .u64 (x.v:Int),.int .i64 x.x] 36)) 36 w2.heap.size x.cells:=BoxO.new w2 #[.int .i64 x.s,.int .i64 x.k,.int .u64 (x.t:Int),.int .u64 (x.v:Int),.int .i64 x.x] 36;have b0:=hx1.cell 0;have b1:=hx1.cell 1;have b2:=hx1.cell 2;have b3:=hx1.cell 3;have b4:=hx1.cell 4;simp only[It.cells,gE0,gE1]at b0 b1 b2 b3 b4;have hsz1:(w2.alloc (.cells #[.int .i64 x.s,.int .i64 x.k,.int .u64 (x.t:Int),.int .u64 (x.v:Int),.int .i64 x.x] 36)).heap.size=w2.heap.size+1:=by simp
      have hX2:=hX1.alloc (by have:=hb2.size;omega) (.cells #[.int .i64 x.s,.int .i64 x.k,.int .u64 (x.t:Int),.int .u64 (x.v:Int),.int .i64 x.x] 36);have ho3:=ho1.alloc (.cells #[.int .i64 x.s,.int .i64 x.k,.int .u64 (x.t:Int),.int .u64 (x.v:Int),.int .i64 x.x] 36);have hx2:BoxO ((w2.alloc (.cells #[.int .i64 x.s,.int .i64 x.k,.int .u64 (x.t:Int),.int .u64 (x.v:Int),.int .i64 x.x] 36)).alloc (.cells #[.int .i64 x.s,.int .i64 x.k,.int .u64 (x.t:Int),.int .u64 (x.v:Int),.int .i64 x.x] 36)) 36 (w2.heap.size+1) x.cells:=by rw[←hsz1];exact BoxO.new _ #[.int .i64 x.s,.int .i64 x.k,.int .u64 (x.t:Int),.int .u64 (x.v:Int),.int .i64 x.x] 36
      have hsz2:((w2.alloc (.cells #[.int .i64 x.s,.int .i64 x.k,.int .u64 (x.t:Int),.int .u64 (x.v:Int),.int .i64 x.x] 36)).alloc (.cells #[.int .i64 x.s,.int .i64 x.k,.int .u64 (x.t:Int),.int .u64 (x.v:Int),.int .i64 x.x] 36)).heap.size=w2.heap.size+1+1:=by simp
      have HR:=Lib.hid (gx3 hx2);have HO:=Lib.hid ho3;have HB:=Lib.hid hX2;have HS2:=Lib.hid (And.intro hsz2 hb2.size);have HZ:=Lib.hid (And.intro z1 (And.intro z2 h1));have hitc:itc out++x.cells=itc (out++[x]):=by simp[itc]
      have HX:=Lib.hid hitc;have hk2:k≤2000:=by omega
      have H2:=Lib.hid h2;clear hz4 hX1 ho1 hx1 hX2 ho3 hx2 hsz1 hsz2 ho2 hb2 z1 z4 h1 hitc H1 HB1 h2;unfold It.val;go_wp2_with (at_builtin;refine jq ?_);refine gy (lq rfl (.tmp 39) (.tmp 41) _ rfl w.heap.size 36 i0 _ 5 40 Tryz.underlying31 hi0 hz0 hz1 hz2 rfl (by omega) wr HB.out (Nat.le_trans hbl.size HB.out.size) _ k (itc out) rfl HO.out _ _ 1 1 x.cells rfl HR.out (fun v hv=>fq1 [x] v (by simpa [itc] using hv)) (k+1) _ rfl HX.out (by unfold maxLen;omega) (by omega) ?_);intro A6 c6 w5 q1 q2 q3 q4 q5;have HF:=Lib.hid (And.intro q1 (HZ.out.1.below q2));have hbz:=hbl.trans q2;clear q1 q2 q3 HR HO HB b0 b1 b2 b3 b4;go_wp2;go_roundw
      case rel=>exact⟨k+1,m5,A5,c5,r2,out++[x],A6,c6,by omega,rfl,rfl,by go_num,Lib.hid ⟨HZ.out.2.2,by rw[List.length_append,H2.out];rfl,HF.out.2,HZ.out.2.1,by omega,by omega,HF.out.1⟩,hbz⟩
      case measure=>simp[intOf];omega
     ·have h1:=H1.out
      rw[if_neg he]at h1;have he3:((er:Int)==0)=false:=by simp;omega
      have hR:R=([],er):=by
       have:=HRE.out;rw[h1]at this;rw[this,if_neg he]
      have HRR:=Lib.hid hR;clear h1 z1 z4 ho2 hR HON;unfold It.val;go_wp2;refine bodyPost_ret (v:=.tuple #[.slice none 0 0,.int .i64 (er:Int)]) (by simp[results,go_sem]) rfl ⟨none,0,0,by rw[HRR.out],by rw[HRR.out];rfl,by rw[HRR.out];exact Its.nil _ _,?_⟩;exact hb2.alloc hb2.size _
    ·obtain rfl:k=n:=by omega
     have hki:((k:Int) < (k:Int))=False:=eq_false (by omega);obtain⟨h1,h2,h3,h4,h5,h6,h7⟩:=HK.out;rw[Nat.sub_self]at h1;have hre:R=if r=[]∧out.all It.ok=true then (out,0) else ([],3):=by
      have:=HRE.out;rw[h1]at this;exact this
     have hrl:=h3.yz
     by_cases hm:0 < m
     ·have hmi:(0:Int) < (m:Int):=by omega
      rw[if_neg (fun h=>by rw[h.1]at hrl;simp at hrl;omega)]at hre;have HRR:=Lib.hid hre;clear h1 hre h3 h7;go_wp2;refine bodyPost_ret (v:=.tuple #[.slice none 0 0,.int .i64 3]) (by simp[results,go_sem]) rfl ⟨none,0,0,by rw[HRR.out];rfl,by rw[HRR.out];rfl,by rw[HRR.out];exact Its.nil _ _,hbl⟩
     ·have hmi:((0:Int) < (m:Int))=False:=eq_false (by omega)
      have hr0:r=[]:=List.length_eq_zero_iff.1 (by omega);have hal:=oy1 A4 k c4 out wr (by omega) (Row.own h7);obtain⟨ab,hab⟩:∃ab,ab=out.all It.ok:=⟨_,rfl⟩;rw[←hab]at hal hre;simp only[hr0,true_and]at hre;have HAL:=Lib.hid hal;obtain⟨A5,c5,hv,hqc,hqm,hlow⟩:=ay h7;injection hv with e1 e2 e3;subst e1 e3;have h7b:=fun w'=>own_below (w':=w') h7;have H7:=Lib.hid (And.intro h7b (And.intro hqc (And.intro hqm hlow)));have H2:=Lib.hid h2;clear h1 h3 h7 h7b hal hab hlow hqc hqm h2
      cases ab with
      |true=>
       rw[if_pos rfl]at hre;have HRR:=Lib.hid hre;clear hre;go_wp2_with fail;refine HAL.out.mono ?_;rintro e w2 ⟨rfl,hb2⟩;have hits:Its w.heap.size w2 A4 k c4 out:=⟨Row.own (H7.out.1 _ hb2),H7.out.2.1,H7.out.2.2.1,fun p hp=>(H7.out.2.2.2 p hp).1⟩;have HI:=Lib.hid (And.intro hits (hbl.trans (hb2.mono hbl.size)));clear hits hb2 HAL H7;go_wp2;refine bodyPost_ret (v:=.tuple #[.slice A4 k c4,.int .i64 0]) (by simp[results,go_sem]) rfl ⟨A4,k,c4,by rw[HRR.out];rfl,by rw[HRR.out];exact H2.out.symm,by rw[HRR.out];exact HI.out.1,HI.out.2⟩
      |false=>
       rw[if_neg (by simp)]at hre;have HRR:=Lib.hid hre;clear hre;go_wp2_with fail;refine HAL.out.mono ?_;rintro e w2 ⟨rfl,hb2⟩;have HI:=Lib.hid (hbl.trans (hb2.mono hbl.size));clear hb2 HAL H7;go_wp2;refine bodyPost_ret (v:=.tuple #[.slice none 0 0,.int .i64 3]) (by simp[results,go_sem]) rfl ⟨none,0,0,by rw[HRR.out];rfl,by rw[HRR.out];rfl,by rw[HRR.out];exact Its.nil _ _,HI.out⟩
 ·rw[if_neg he]at hre
  have he3:((er:Int)==0)=false:=by simp;omega
  have HRE:=Lib.hid hre;clear htk hre hsz hr;go_enter Tryz.func233,Tryz.ntmps233;go_wp2_with fail;refine HTK.out.mono ?_;rintro e w1 ⟨rfl,hw1⟩;subst hw1;clear HTK;go_wp2;refine bodyPost_ret (v:=.tuple #[.slice none 0 0,.int .i64 (er:Int)]) (by simp[results,go_sem]) rfl ⟨none,0,0,by rw[HRE.out],by rw[HRE.out];rfl,by rw[HRE.out];exact Its.nil _ _,Below.refl _ _⟩
end
section
open Go Go.RowKit
theorem zw1 {P:Program} {ops:Array Oper} {o:Oper} {a:Act} {w:World} {K:Act→World→Prop} {Q:Exit→Act→World→Prop} {E:Prop} (hgd:o.guard=none) (s x:Operand) (t:TypeId)
  (ho:o.op=.call { callee:=.builtin .append,args:=#[s,x],argTypes:=#[t,t] })
  (base:Nat) (e:TypeId) (i:TypeInfo) (z:Value) (size bytes:Nat) (ht:P.underlying t=some (.slice e)) (hi:P.info? e=some i) (hz:i.zero=some z)
  (hsize:i.size=size) (hby:i.bytes=bytes) (hzs:z.cells.size=size) (hsz:0 < size) (hbase:base≤w.heap.size) (v:Value) (n:Nat) (xs:List Value) (hs:a.eval s=v) (hown:w.ownsRow base e size v n xs)
  (B:Nat) (A:Option Addr) (m c:Nat) (hm:0 < m) (news:List Value) (hx:a.eval x=.slice A m c) (hr:Row B w A m size news) (h1:∀u∈news,u.oneCell'=true)
  (N:Nat) (X:List Value) (hN:n+m=N) (hX:xs++news=X) (h63:N≤maxLen) (hbytes:N *bytes≤140737488355328)
  (h:∀A' c' w',w'.ownsRow base e size (.slice A' N c') N X→w.grownBy w' v.ownBlock→N≤c'→c'≤maxLen→((Value.slice A' N c').ownBlock=v.ownBlock∨(Value.slice A' N c').ownBlock=some w.heap.size)→K (a.put o.dst (.slice A' N c')) w'):
  if Region.wanted o (yielded ops a.tmps)=true then Oper.wp P o a w K Q else E:=by
 have hw:Region.wanted o (yielded ops a.tmps)=true:=by simp[Region.wanted,hgd]
 rw[if_pos hw];subst hN;subst hX;have hpos:0 < news.length:=by
  rw[hr.len];exact Nat.mul_pos hm hsz
 obtain⟨a',rfl,_⟩:=hr.some_ hpos;obtain⟨v',w',hrun,h3,h4,_,h6⟩:=run_append_own_at (P:=P) (ty:=o.type) w base t e i z size bytes ht hi hz hsize hby hzs hsz v n xs hown a' m c news hr.len hr.cells h1 h63 hbytes hbase;obtain⟨A',c',rfl,h5,h7,_⟩:=ay h3;unfold Oper.wp execOp;simp only[ho,resolve,invoke,builtin,Sem.run_bind,Sem.run_pure,Result.andThen_ok,List.map_toArray,List.map_cons,List.map_nil,hs,hx,hrun];exact h A' c' w' h3 h4 h5 h7 h6
end
section
open Go Go.RowKit Go.Maps
theorem bz2:(Tryz.prog.info? 118).map (fun i=>(i.zero,i.size,i.bytes))=some (some (.agg #[.int .i64 0,.int .i64 0,.string ⟨#[]⟩,.string ⟨#[]⟩]),4,48):=by kernel_rfl
theorem eq1 {w3 w4:World} {X:Dw} {S:Sd} {o:Obj} (h:DK w3 X S) (hg:((w3.alloc o).drew).grownBy w4 X.tv.ownBlock):BoxO w4 99 X.d (X.cells S):=
 ((h.box.alloc o).drew).chg (Chg.uy (F:=X.tv.ownBlock.toList) hg (fun b e=>by simp[e])) (fun hm=>(h.apart.tv _ (by simpa using hm)).1 rfl)
theorem sv2 {w3 w4:World} {X:Dw} {S:Sd} {o:Obj} (h:DK w3 X S) (t:Tn) {v:Value} (hg:((w3.alloc o).drew).grownBy w4 X.tv.ownBlock) (hown:w4.ownsRow 0 118 4 v (S.turns.length+1) (S.turns.flatMap iw++iw t))
  (hob:v.ownBlock=X.tv.ownBlock∨v.ownBlock=some ((w3.alloc o).drew).heap.size):DK (w4.setCell ⟨X.d,4,none⟩ v) { X with tv:=v } { S with turns:=S.turns++[t] }∧Chg X.foot w3 (w4.setCell ⟨X.d,4,none⟩ v)∧∀g∈({ X with tv:=v }:Dw).foot,g∈X.foot∨w3.heap.size≤g:=by
 have hbox:=eq1 h hg;have ha:=h.apart;have hsz:((w3.alloc o).drew).heap.size=w3.heap.size+1:=by simp
 have hvd:∀g,v.ownBlock=some g→g≠X.d:=fun g e e2=>by
  subst e2
  rcases hob with h1|h1
  ·exact(ha.tv X.d (by rw[←h1,e])).1 rfl
  ·rw[e]at h1
   injection h1 with h1;have:=h.box.lt;omega
 have hc1:Chg X.tv.ownBlock.toList w3 w4:=((Chg.refl _ w3).alloc o).drew.trans (Chg.uy (F:=X.tv.ownBlock.toList) hg (fun b e=>by simp[e])) (fun g hg=>.inl hg);have hc2:Chg ([X.d] ++X.tv.ownBlock.toList) w3 (w4.setCell ⟨X.d,4,none⟩ v):=(hc1.mono (fun g hg=>.inl (List.mem_append_right _ hg))).setCell v (.inl (by simp));have hv:∀g,v.ownBlock=some g→X.tv.ownBlock=some g∨w3.heap.size≤g:=fun g e=>by
  rcases hob with h1|h1
  ·exact .inl (by rw[←h1,e])
  ·rw[e]at h1
   injection h1 with h1;exact .inr (by omega)
 have hdk:=DK.mk4 (w':=w4.setCell ⟨X.d,4,none⟩ v) (tv:=v) (ts:=S.turns++[t]) h (by
   have h1:=ny hown (pz w4 ⟨X.d,4,none⟩ v) (fun g e hg=>hvd g e (by simpa using hg));simpa using h1) hc2 hv (by
   have h1:=hbox.store 4 v;exact h1)
 refine⟨hdk,hc2.mono (fun g hg=>.inl ?_),fun g hg=>?_⟩
 ·rcases List.mem_append.1 hg with h1|h1
  ·rw[List.mem_singleton.1 h1];exact aj.2 (.inl rfl)
  ·exact aj.2 (.inr (.inr (.inr (.inr (.inl (by simpa using h1))))))
 ·rcases aj.1 hg with h1|h1|h1|h1|h1|h1
  ·exact .inl (aj.2 (.inl h1))
  ·exact .inl (aj.2 (.inr (.inl h1)))
  ·exact .inl (aj.2 (.inr (.inr (.inl h1))))
  ·exact .inl (aj.2 (.inr (.inr (.inr (.inl h1)))))
  ·rcases hv g h1 with h2|h2
   ·exact .inl (aj.2 (.inr (.inr (.inr (.inr (.inl h2))))))
   ·exact .inr h2
  ·exact .inl (aj.2 (.inr (.inr (.inr (.inr (.inr h1))))))
theorem dv3 {w3 w4:World} {X:Dw} {S:Sd} {o:Obj} (h:DK w3 X S) (t:Tn) {v:Value} (hg:((w3.alloc o).drew).grownBy w4 X.tv.ownBlock) (hown:w4.ownsRow 0 118 4 v (S.turns.length+1) (S.turns.flatMap iw++iw t))
  (hob:v.ownBlock=X.tv.ownBlock∨v.ownBlock=some ((w3.alloc o).drew).heap.size):Upd X w3 (w4.setCell ⟨X.d,4,none⟩ v) { S with turns:=S.turns++[t] }:=
 let ⟨h1,h2,h3⟩:=sv2 h t hg hown hob
 ⟨{ X with tv:=v },rfl,h1,h2,h3⟩
theorem Upd.trans {X:Dw} {w w1 w2:World} {S2:Sd} {X1:Dw} (e:X1.d=X.d) (c:Chg X.foot w w1) (hf:∀g∈X1.foot,g∈X.foot∨w.heap.size≤g) (h2:Upd X1 w1 w2 S2):Upd X w w2 S2:=by
 obtain⟨X',e',h,c',hf'⟩:=h2;refine⟨X',e'.trans e,h,c.trans c' (fun g hg=>hf g hg),fun g hg=>?_⟩
 rcases hf' g hg with h3|h3
 ·exact hf g h3
 ·exact .inr (Nat.le_trans c.size h3)
theorem lq1 (X:Dw) (S:Sd) (s:ByteArray) (hs:s.size≤maxLen) (hw:S.Wf) (hl:S.load≤1099511627776) (w:World) (h:DK w X S):
  Calls Tryz.prog 26 #[.pointer (some ⟨X.d,0,none⟩),.string s] w fun e w'=>e=.returned (.int .i64 ((S.remove s.data.toList).2:Int))∧Upd X w w' (S.remove s.data.toList).1:=by
 have hcall:=jw4 X S s hs hw w h;have hw1:=hw.call [s.data.toList];have hld:=Sd.aj1 S [s.data.toList];obtain⟨e1,e2,e3,e4,e5,_,_⟩:=Sd.iy S [s.data.toList];have hsy:S.remove s.data.toList=if (S.call [s.data.toList]).2≠0 then S.call [s.data.toList] else if (S.names.get s.data.toList).isNone then ((S.call [s.data.toList]).1,11)
  else ({ (S.call [s.data.toList]).1 with names:=Tn.go ⟨3,0,s.data.toList,[]⟩ S.names,turns:=S.turns++[⟨3,0,s.data.toList,[]⟩] },0):=rfl
 generalize S.call [s.data.toList]=R at *;obtain⟨S1,er⟩:=R;simp only at *
 by_cases h0:er=0
 ·subst h0
  rw[if_neg (by simp)]at hsy;have hfd:=fun w1 h1=>find_any X S1 s hs w1 h1 hw1.names
  cases h3:S.names.get s.data.toList with
  |none=>
   simp only[h3,Option.isNone_none,if_true]at hsy;rw[hsy];simp only[e1,h3]at hfd;clear hsy h3 e1 e2 e3 e4 e5 hw1 hw h hld;go_enter Tryz.func26,Tryz.ntmps26;go_wp2_with fail;refine hcall.mono ?_;rintro e w1 ⟨rfl,h1,hc1⟩;go_wp2_with fail;refine(hfd w1 h1).mono ?_;rintro e w2 ⟨rfl,rfl⟩;go_wp2;go_ret;exact⟨rfl,Upd.called h1 hc1⟩
  |some i=>
   simp only[h3,Option.isNone_some,Bool.false_eq_true,if_false]at hsy;rw[hsy,←e1,←e4];simp only[e1,h3]at hfd;have hml:S1.turns.length+1≤1099511627777:=by unfold Sd.load at hld hl;omega
   clear hsy h3 e1 e2 e3 e4 e5 hw h hld;go_enter Tryz.func26,Tryz.ntmps26;go_wp2_with fail;refine hcall.mono ?_;rintro e w1 ⟨rfl,h1,hc1⟩;go_wp2_with fail;refine(hfd w1 h1).mono ?_;rintro e w2 ⟨rfl,rfl⟩;unfold ptrV;go_wp2;have hbV:Below w1.heap.size w1 (w1.alloc (.cells #[.int .i64 3,.int .i64 0,.string s,.string ⟨#[]⟩] 118)):=(Below.refl _ _).alloc (Nat.le_refl _) _;have hbox:=BoxO.new w1 #[.int .i64 3,.int .i64 0,.string s,.string ⟨#[]⟩] 118;have hlt:w1.heap.size < (w1.alloc (.cells #[.int .i64 3,.int .i64 0,.string s,.string ⟨#[]⟩] 118)).heap.size:=by simp
   have h2:=h1.below hbV;have hup0:=Chg.of_below hbV X.foot;generalize w1.alloc (.cells #[.int .i64 3,.int .i64 0,.string s,.string ⟨#[]⟩] 118)=V at *;have c0:=hbox.cell 0;have c1:=hbox.cell 1;have c2:=hbox.cell 2;have c3:=hbox.cell 3;have d2:=h2.box.cell 2;simp only[Dw.cells,gE0,gE1]at c0 c1 c2 c3 d2;have htb:=h1.lt;have hnamed:=Lib.hid h2.names;have hsm:S1.names.length < maxLen:=by have:=hw1.most;unfold maxLen;omega
   generalize w1.heap.size=tb at *
   go_still_tail 5,(by kernel_rfl)
   change wpList _ _ _ _ _ (World.drew V);go_wp2_with fail;have hdo:=wj3 3 0 s.data.toList [] (by simpa using hs) (by simp) (by omega) X.nb S1.names.length S1.names V.drew hnamed.out.drew hsm (by omega);simp only[cy3,by1]at hdo;refine hdo.mono ?_;rintro e w3 ⟨rfl,hn3,hc3⟩;have hc3':Chg [X.nb] V w3:=(Chg.refl [X.nb] V).drew.trans hc3 (fun g hg=>.inl hg);have h3:=h2.lx1 hn3 hc3';have hbox3:=hbox.chg hc3' (by simp;have:=htb X.nb (aj.2 (.inr (.inl rfl)));omega);have c0:=hbox3.cell 0;have c1:=hbox3.cell 1;have c2:=hbox3.cell 2;have c3:=hbox3.cell 3;have d4:=h3.box.cell 4;have f4:=h3.box.free 4;have hxd:=h3.box.lt;obtain⟨tA,tc,htv,_,_,_⟩:=ay h3.turns;simp only[Dw.cells,gE0,gE1]at c0 c1 c2 c3 d4;rw[htv]at d4;clear d2 hnamed hdo hn3;have hrow4:=own_base h3.turns (Nat.zero_le _);rw[htv]at hrow4;have hpre:=fun(o:Obj) (w4:World) (hg:((w3.alloc o).drew).grownBy w4 (Value.slice tA S1.turns.length tc).ownBlock)=>(⟨(eq1 h3 (by rw[htv];exact hg)).cell 4,(eq1 h3 (by rw[htv];exact hg)).free 4⟩:w4.cell? ⟨X.d,4,none⟩=_∧w4.frozen? ⟨X.d,4,none⟩=false);have hpost:=fun(o:Obj) (w4:World) (v:Value) (hg:((w3.alloc o).drew).grownBy w4 (Value.slice tA S1.turns.length tc).ownBlock) hown hob=>dv3 (o:=o) (w4:=w4) (v:=v) h3 ⟨3,0,s.data.toList,[]⟩ (by rw[htv];exact hg) hown (by rw[htv];exact hob);simp only[iw,by1]at hpost;have HPO:=Lib.hid hpost;have HPR:=Lib.hid hpre;have htr:=fun(w5:World) (S5:Sd) (h:Upd X w3 w5 S5)=>Upd.after hc1 (Upd.trans rfl (hup0.trans (hc3'.mono (fun g hg=>.inl (by rw[List.mem_singleton.1 hg];exact aj.2 (.inr (.inl rfl))):∀g∈[X.nb],g∈X.foot∨_)) (fun g hg=>.inl hg)) (fun g hg=>.inl hg) h);have HTR:=Lib.hid htr;clear hpost hpre htr;obtain⟨i0,hi0,hz0,hz1,hz2⟩:=info_parts bz2;go_wp2
   go_region_law (refine zw1 rfl (.tmp 30) (.tmp 32) _ rfl 0 118 i0 _ 4 48 Tryz.underlying92 hi0 hz0 hz1 hz2 rfl (by omega) (Nat.zero_le _) (.slice tA S1.turns.length tc) S1.turns.length _ rfl (hrow4.alloc _).drew _ (some ⟨w3.heap.size,0,none⟩) 1 1 (by omega) [.int .i64 3,.int .i64 0,.string s,.string ⟨#[]⟩] rfl (Row.new w3 #[.int .i64 3,.int .i64 0,.string s,.string ⟨#[]⟩] 118 (n:=1) (size:=4) rfl).drew (by simp[Value.oneCell']) (S1.turns.length+1) _ rfl rfl (by unfold maxLen;omega) (by omega) ?_;intro A4 c4 w4 hown4 hg4 _ _ hob4;obtain⟨q4,q5⟩:=HPR.out _ _ hg4;have HO:=Lib.hid (HTR.out _ _ (HPO.out _ _ _ hg4 hown4 hob4));clear hg4 hown4 hob4;simp only[Dw.cells,gE0,gE1]at q4)
   all_goals
    go_wp2;go_ret;exact⟨rfl,HO.out⟩
 ·have hne:=neq0 h0
  rw[if_pos h0]at hsy;rw[hsy];clear hsy e1 e2 e3 e4 e5 h0 hld;go_enter Tryz.func26,Tryz.ntmps26;go_wp2_with fail;refine hcall.mono ?_;rintro e w1 ⟨rfl,h1,hc1⟩;go_wp2;go_ret;exact⟨rfl,Upd.called h1 hc1⟩
end
section
open Go Go.RowKit Go.Maps
theorem call2 (X:Dw) (S:Sd) (s u:ByteArray) (hs:s.size≤maxLen) (hu:u.size≤maxLen) (hw:S.Wf) (w:World) (h:DK w X S):
  Calls Tryz.prog 75 #[.pointer (some ⟨X.d,0,none⟩),.slice (some ⟨w.heap.size,0,none⟩) 2 2] (w.alloc (.cells #[.string s,.string u] 9)) fun e w'=>e=.returned (.int .i64 ((S.call [s.data.toList,u.data.toList]).2:Int))∧DK w' X (S.call [s.data.toList,u.data.toList]).1∧Chg [X.d] w w':=by
 have hb:Below w.heap.size w (w.alloc (.cells #[.string s,.string u] 9)):=(Below.refl _ _).alloc (Nat.le_refl _) _;refine(nq2 X S (some ⟨w.heap.size,0,none⟩) 2 2 [s,u] (by omega) (by simp;exact⟨hs,hu⟩) hw.stop hw.fail _ (h.below hb) ?_).mono ?_
 ·exact(Row.new w #[.string s,.string u] 9 (n:=2) (size:=1) rfl).up (by simp)
 ·rintro e w' ⟨rfl,h1,h2⟩
  exact⟨rfl,h1,(Chg.of_below hb [X.d]).trans h2 (fun g hg=>.inl hg)⟩
theorem nv3 (X:Dw) (S:Sd) (s u:ByteArray) (hs:s.size≤maxLen) (hu:u.size≤maxLen) (hw:S.Wf) (hl:S.load≤1099511627776) (w:World) (h:DK w X S):
  Calls Tryz.prog 252 #[.pointer (some ⟨X.d,0,none⟩),.string s,.string u] w fun e w'=>e=.returned (.int .i64 ((S.rename s.data.toList u.data.toList).2:Int))∧Upd X w w' (S.rename s.data.toList u.data.toList).1:=by
 have hcall:=call2 X S s u hs hu hw w h;have hw1:=hw.call [s.data.toList,u.data.toList];have hld:=Sd.aj1 S [s.data.toList,u.data.toList];obtain⟨e1,e2,e3,e4,e5,_,_⟩:=Sd.iy S [s.data.toList,u.data.toList];have hsy:S.rename s.data.toList u.data.toList=if (S.call [s.data.toList,u.data.toList]).2≠0 then S.call [s.data.toList,u.data.toList] else if (S.names.get s.data.toList).isNone then ((S.call [s.data.toList,u.data.toList]).1,11)
  else if s.data.toList=u.data.toList then ((S.call [s.data.toList,u.data.toList]).1,0)
  else ({ (S.call [s.data.toList,u.data.toList]).1 with names:=Tn.go ⟨2,0,s.data.toList,u.data.toList⟩ S.names,turns:=S.turns++[⟨2,0,s.data.toList,u.data.toList⟩] },0):=rfl
 generalize S.call [s.data.toList,u.data.toList]=R at *;obtain⟨S1,er⟩:=R;simp only at *
 by_cases h0:er=0
 ·subst h0
  rw[if_neg (by simp)]at hsy;have hfd:=fun w1 h1=>find_any X S1 s hs w1 h1 hw1.names
  cases h3:S.names.get s.data.toList with
  |none=>
   simp only[h3,Option.isNone_none,if_true]at hsy;rw[hsy];simp only[e1,h3]at hfd;clear hsy h3 e1 e2 e3 e4 e5 hw1 hw h hld;go_enter Tryz.func252,Tryz.ntmps252;go_wp2_with fail;refine hcall.mono ?_;rintro e w1 ⟨rfl,h1,hc1⟩;go_wp2_with fail;refine(hfd w1 h1).mono ?_;rintro e w2 ⟨rfl,rfl⟩;go_wp2;go_ret;exact⟨rfl,Upd.called h1 hc1⟩
  |some i=>
   simp only[h3,Option.isNone_some,Bool.false_eq_true,if_false]at hsy
   by_cases hab:s=u
   ·subst hab
    rw[if_pos rfl]at hsy;rw[hsy];simp only[e1,h3]at hfd;clear hsy h3 e1 e2 e3 e4 e5 hw1 hw h hld;go_enter Tryz.func252,Tryz.ntmps252;go_wp2_with fail;refine hcall.mono ?_;rintro e w1 ⟨rfl,h1,hc1⟩;go_wp2_with fail;refine(hfd w1 h1).mono ?_;rintro e w2 ⟨rfl,rfl⟩;unfold ptrV;go_wp2;go_ret;exact⟨rfl,Upd.called h1 hc1⟩
   have hab':¬s.data.toList=u.data.toList:=fun e=>hab (by rw[←by1 s,e,by1]);rw[if_neg hab']at hsy;have hbeq:(s.toList==u.toList)=false:=by
    rw[ByteArray.toList_eq,ByteArray.toList_eq];simpa using hab'
   clear hab hab';rw[hsy,←e1,←e4];simp only[e1,h3]at hfd;have hml:S1.turns.length+1≤1099511627777:=by unfold Sd.load at hld hl;omega
   clear hsy h3 e1 e2 e3 e4 e5 hw h hld;go_enter Tryz.func252,Tryz.ntmps252;go_wp2_with fail;refine hcall.mono ?_;rintro e w1 ⟨rfl,h1,hc1⟩;go_wp2_with fail;refine(hfd w1 h1).mono ?_;rintro e w2 ⟨rfl,rfl⟩;unfold ptrV;go_wp2;have hbV:Below w1.heap.size w1 (w1.alloc (.cells #[.int .i64 2,.int .i64 0,.string s,.string u] 118)):=(Below.refl _ _).alloc (Nat.le_refl _) _;have hbox:=BoxO.new w1 #[.int .i64 2,.int .i64 0,.string s,.string u] 118;have hlt:w1.heap.size < (w1.alloc (.cells #[.int .i64 2,.int .i64 0,.string s,.string u] 118)).heap.size:=by simp
   have h2:=h1.below hbV;have hup0:=Chg.of_below hbV X.foot;generalize w1.alloc (.cells #[.int .i64 2,.int .i64 0,.string s,.string u] 118)=V at *;have c0:=hbox.cell 0;have c1:=hbox.cell 1;have c2:=hbox.cell 2;have c3:=hbox.cell 3;have d2:=h2.box.cell 2;simp only[Dw.cells,gE0,gE1]at c0 c1 c2 c3 d2;have htb:=h1.lt;have hnamed:=Lib.hid h2.names;have hsm:S1.names.length < maxLen:=by have:=hw1.most;unfold maxLen;omega
   generalize w1.heap.size=tb at *
   go_still_tail 5,(by kernel_rfl)
   change wpList _ _ _ _ _ (World.drew V);go_wp2_with fail;have hdo:=wj3 2 0 s.data.toList u.data.toList (by simpa using hs) (by simpa using hu) (by omega) X.nb S1.names.length S1.names V.drew hnamed.out.drew hsm (by omega);simp only[cy3,by1]at hdo;refine hdo.mono ?_;rintro e w3 ⟨rfl,hn3,hc3⟩;have hc3':Chg [X.nb] V w3:=(Chg.refl [X.nb] V).drew.trans hc3 (fun g hg=>.inl hg);have h3:=h2.lx1 hn3 hc3';have hbox3:=hbox.chg hc3' (by simp;have:=htb X.nb (aj.2 (.inr (.inl rfl)));omega);have c0:=hbox3.cell 0;have c1:=hbox3.cell 1;have c2:=hbox3.cell 2;have c3:=hbox3.cell 3;have d4:=h3.box.cell 4;have f4:=h3.box.free 4;have hxd:=h3.box.lt;obtain⟨tA,tc,htv,_,_,_⟩:=ay h3.turns;simp only[Dw.cells,gE0,gE1]at c0 c1 c2 c3 d4;rw[htv]at d4;clear d2 hnamed hdo hn3;have hrow4:=own_base h3.turns (Nat.zero_le _);rw[htv]at hrow4;have hpre:=fun(o:Obj) (w4:World) (hg:((w3.alloc o).drew).grownBy w4 (Value.slice tA S1.turns.length tc).ownBlock)=>(⟨(eq1 h3 (by rw[htv];exact hg)).cell 4,(eq1 h3 (by rw[htv];exact hg)).free 4⟩:w4.cell? ⟨X.d,4,none⟩=_∧w4.frozen? ⟨X.d,4,none⟩=false);have hpost:=fun(o:Obj) (w4:World) (v:Value) (hg:((w3.alloc o).drew).grownBy w4 (Value.slice tA S1.turns.length tc).ownBlock) hown hob=>dv3 (o:=o) (w4:=w4) (v:=v) h3 ⟨2,0,s.data.toList,u.data.toList⟩ (by rw[htv];exact hg) hown (by rw[htv];exact hob);simp only[iw,by1]at hpost;have HPO:=Lib.hid hpost;have HPR:=Lib.hid hpre;have htr:=fun(w5:World) (S5:Sd) (h:Upd X w3 w5 S5)=>Upd.after hc1 (Upd.trans rfl (hup0.trans (hc3'.mono (fun g hg=>.inl (by rw[List.mem_singleton.1 hg];exact aj.2 (.inr (.inl rfl))):∀g∈[X.nb],g∈X.foot∨_)) (fun g hg=>.inl hg)) (fun g hg=>.inl hg) h);have HTR:=Lib.hid htr;clear hpost hpre htr;obtain⟨i0,hi0,hz0,hz1,hz2⟩:=info_parts bz2;go_wp2
   go_region_law (refine zw1 rfl (.tmp 39) (.tmp 41) _ rfl 0 118 i0 _ 4 48 Tryz.underlying92 hi0 hz0 hz1 hz2 rfl (by omega) (Nat.zero_le _) (.slice tA S1.turns.length tc) S1.turns.length _ rfl (hrow4.alloc _).drew _ (some ⟨w3.heap.size,0,none⟩) 1 1 (by omega) [.int .i64 2,.int .i64 0,.string s,.string u] rfl (Row.new w3 #[.int .i64 2,.int .i64 0,.string s,.string u] 118 (n:=1) (size:=4) rfl).drew (by simp[Value.oneCell']) (S1.turns.length+1) _ rfl rfl (by unfold maxLen;omega) (by omega) ?_;intro A4 c4 w4 hown4 hg4 _ _ hob4;obtain⟨q4,q5⟩:=HPR.out _ _ hg4;have HO:=Lib.hid (HTR.out _ _ (HPO.out _ _ _ hg4 hown4 hob4));clear hg4 hown4 hob4;simp only[Dw.cells,gE0,gE1]at q4)
   all_goals
    go_wp2;go_ret;exact⟨rfl,HO.out⟩
 ·have hne:=neq0 h0
  rw[if_pos h0]at hsy;rw[hsy];clear hsy e1 e2 e3 e4 e5 h0 hld;go_enter Tryz.func252,Tryz.ntmps252;go_wp2_with fail;refine hcall.mono ?_;rintro e w1 ⟨rfl,h1,hc1⟩;go_wp2;go_ret;exact⟨rfl,Upd.called h1 hc1⟩
end
section
open Go Go.RowKit Go.Maps
theorem qv3:(Tryz.prog.info? 114).map (fun i=>(i.zero,i.size,i.bytes))=some (some (.pointer none),1,8):=by kernel_rfl
theorem cv4 (S:Sd) (s:List UInt8):S.create s=if (S.call [s]).2≠0 then S.call [s] else if (S.names.get s).isSome then ((S.call [s]).1,12) else if 64≤S.names.length then ((S.call [s]).1,65)
  else ({ (S.call [s]).1 with names:=S.names.put s S.files.length,turns:=S.turns++[⟨1,S.files.length,s,[]⟩],files:=S.files++[([],0)] },0):=rfl
def ey1 (w:World):World:=(w.alloc (.cells #[.slice none 0 0,.int .i64 0] 116)).alloc (.cells #[.pointer (some ⟨w.heap.size,0,none⟩)] 114)
theorem rw2 (w:World):(ey1 w).heap.size=w.heap.size+2:=by simp[ey1]
theorem iy1 (w:World):Below w.heap.size w (ey1 w):=((Below.refl _ _).alloc (Nat.le_refl _) _).alloc (by simp) _
theorem gj1 {w w4:World} {X:Dw} {S:Sd} (h:DK w X S) (hg:(ey1 w).grownBy w4 X.fv.ownBlock):BoxO w4 99 X.d (X.cells S):=
 (h.box.below (iy1 w)).chg (Chg.uy (F:=X.fv.ownBlock.toList) hg (fun b e=>by simp[e])) (fun hm=>(h.apart.fv _ (by simpa using hm)).1 rfl)
theorem iv4 {w w4:World} {X:Dw} {S:Sd} (h:DK w X S) {v:Value} (hg:(ey1 w).grownBy w4 X.fv.ownBlock) (hown:w4.ownsRow 0 114 1 v (S.files.length+1) (X.ps.map ptrV++[.pointer (some ⟨w.heap.size,0,none⟩)]))
  (hob:v.ownBlock=X.fv.ownBlock∨v.ownBlock=some (ey1 w).heap.size):Upd X w (w4.setCell ⟨X.d,1,none⟩ v) { S with files:=S.files++[([],0)] }:=by
 have hbox:=gj1 h hg;have ha:=h.apart;have hsz:=rw2 w;have hlt:=h.lt;have hvd:∀g,v.ownBlock=some g→g≠X.d∧g≠w.heap.size:=fun g e=>by
  rcases hob with h1|h1
  ·have h2:=(ha.fv g (by rw[←h1,e])).1
   have h3:=hlt g (aj.2 (.inr (.inr (.inr (.inl (by rw[←h1,e]))))));exact⟨h2,by omega⟩
  ·rw[e]at h1
   injection h1 with h1;have:=h.box.lt;exact⟨by omega,by omega⟩
 have hc1:Chg X.fv.ownBlock.toList w w4:=(Chg.of_below (iy1 w) _).trans (Chg.uy (F:=X.fv.ownBlock.toList) hg (fun b e=>by simp[e])) (fun g hg=>.inl hg);have hc2:Chg ([X.d] ++X.fv.ownBlock.toList) w (w4.setCell ⟨X.d,1,none⟩ v):=(hc1.mono (fun g hg=>.inl (List.mem_append_right _ hg))).setCell v (.inl (by simp));have hv:∀g,v.ownBlock=some g→X.fv.ownBlock=some g∨w.heap.size≤g:=fun g e=>by
  rcases hob with h1|h1
  ·exact .inl (by rw[←h1,e])
  ·rw[e]at h1
   injection h1 with h1;exact .inr (by omega)
 have hfb0:BoxO (w.alloc (.cells #[.slice none 0 0,.int .i64 0] 116)) 116 w.heap.size [.slice none 0 0,.int .i64 0]:=BoxO.new _ _ _;have hfb1:BoxO (ey1 w) 116 w.heap.size [.slice none 0 0,.int .i64 0]:=hfb0.alloc _;have hfb:BoxO w4 116 w.heap.size [.slice none 0 0,.int .i64 0]:=hfb1.chg (Chg.uy (F:=X.fv.ownBlock.toList) hg (fun b e=>by simp[e])) (fun hm=>by
  have:=hlt w.heap.size (aj.2 (.inr (.inr (.inr (.inl (by simpa using hm))))));omega)
 have hdk:=DK.tz4 (w':=w4.setCell ⟨X.d,1,none⟩ v) (fv:=v) (b:=w.heap.size) h (by
   have h1:=ny hown (pz w4 ⟨X.d,1,none⟩ v) (fun g e hg=>(hvd g e).1 (by simpa using hg));simpa [ptrV] using h1) (Nat.le_refl _) (fun e=>(hvd _ e).2 rfl) (hfb.chg (pz w4 ⟨X.d,1,none⟩ v) (fun hm=>by
    have:=h.box.lt;simp at hm;omega)) hc2 hv (by
   have h1:=hbox.store 1 v;exact h1)
 refine⟨{ X with fv:=v,ps:=X.ps++[(w.heap.size,Value.slice none 0 0)] },rfl,hdk,hc2.mono (fun g hg=>.inl ?_),fun g hg=>?_⟩
 ·rcases List.mem_append.1 hg with h1|h1
  ·rw[List.mem_singleton.1 h1];exact aj.2 (.inl rfl)
  ·exact aj.2 (.inr (.inr (.inr (.inl (by simpa using h1)))))
 ·rcases aj.1 hg with h1|h1|h1|h1|h1|⟨p,hp,hgp⟩
  ·exact .inl (aj.2 (.inl h1))
  ·exact .inl (aj.2 (.inr (.inl h1)))
  ·exact .inl (aj.2 (.inr (.inr (.inl h1))))
  ·rcases hv g h1 with h2|h2
   ·exact .inl (aj.2 (.inr (.inr (.inr (.inl h2)))))
   ·exact .inr h2
  ·exact .inl (aj.2 (.inr (.inr (.inr (.inr (.inl h1))))))
  ·rcases List.mem_append.1 hp with hp|hp
   ·exact .inl (aj.2 (.inr (.inr (.inr (.inr (.inr ⟨p,hp,hgp⟩))))))
   ·rw[List.mem_singleton.1 hp]at hgp
    simp[bz,Value.ownBlock]at hgp;exact .inr (by omega)
theorem iz2 (X:Dw) (S:Sd) (s:ByteArray) (hs:s.size≤maxLen) (hw:S.Wf) (hl:S.load≤1099511627776) (w:World) (h:DK w X S):
  Calls Tryz.prog 27 #[.pointer (some ⟨X.d,0,none⟩),.string s] w fun e w'=>e=.returned (.int .i64 ((S.create s.data.toList).2:Int))∧Upd X w w' (S.create s.data.toList).1:=by
 have hcall:=jw4 X S s hs hw w h;have hw1:=hw.call [s.data.toList];have hld:=Sd.aj1 S [s.data.toList];obtain⟨e1,e2,e3,e4,e5,_,_⟩:=Sd.iy S [s.data.toList];have hsy:=cv4 S s.data.toList;generalize S.call [s.data.toList]=R at *;obtain⟨S1,er⟩:=R;simp only at *
 by_cases h0:er=0
 ·subst h0
  rw[if_neg (by simp)]at hsy;have hfd:=fun w1 h1=>find_any X S1 s hs w1 h1 hw1.names
  cases h3:S.names.get s.data.toList with
  |some i=>
   simp only[h3,Option.isSome_some,if_true]at hsy;rw[hsy];simp only[e1,h3]at hfd;clear hsy h3 e1 e2 e3 e4 e5 hw1 hw h hld;go_enter Tryz.func27,Tryz.ntmps27;go_wp2_with fail;refine hcall.mono ?_;rintro e w1 ⟨rfl,h1,hc1⟩;go_wp2_with fail;refine(hfd w1 h1).mono ?_;rintro e w2 ⟨rfl,rfl⟩;unfold ptrV;go_wp2;go_ret;exact⟨rfl,Upd.called h1 hc1⟩
  |none=>
   simp only[h3,Option.isSome_none,Bool.false_eq_true,if_false]at hsy;simp only[e1,h3]at hfd
   by_cases hm:64≤S.names.length
   ·rw[if_pos hm]at hsy
    rw[hsy];have hm1:(64:Int)≤(S1.names.length:Int):=by rw[e1];omega
    clear hsy h3 e1 e2 e3 e4 e5 hw h hld hm;go_enter Tryz.func27,Tryz.ntmps27;go_wp2_with fail;refine hcall.mono ?_;rintro e w1 ⟨rfl,h1,hc1⟩;go_wp2_with fail;refine(hfd w1 h1).mono ?_;rintro e w2 ⟨rfl,rfl⟩;have d2:=h1.box.cell 2;have hn:=Lib.hid h1.names;have hsz:=Nm.uw1 S1.names;simp only[Dw.cells,gE0,gE1]at d2;go_wp2_with (at_len;refine wpList_len_own _ rfl _ 90 rfl 9 3 Tryz.underlying90 _ X.nb _ _ rfl hn.out ?_;rw[hsz]);go_wp2;go_ret;exact⟨rfl,Upd.called h1 hc1⟩
   ·rw[if_neg hm]at hsy
    have hm1:(S1.names.length:Int) < 64:=by rw[e1];omega
    have hm2:S1.names.length < maxLen:=by unfold maxLen;omega
    rw[hsy,←e1,←e4,←e3];have hml:S1.turns.length+1≤1099511627777∧S1.files.length+1≤1099511627777:=by unfold Sd.load at hld hl;omega
    obtain⟨hml,hmf⟩:=hml;clear hsy h3 e1 e2 e3 e4 e5 hw h hld hm;have hkey:=pv3 hs;have HP:=Lib.hid (Nm.mq2 S1.names s.data.toList S1.files.length);have hwf:(Lit.int .i64 (S1.files.length:Int)).wf=true:=WalkArith.wf_i64 (by omega);go_enter Tryz.func27,Tryz.ntmps27;go_wp2_with fail;refine hcall.mono ?_;rintro e w1 ⟨rfl,h1,hc1⟩;go_wp2_with fail;refine(hfd w1 h1).mono ?_;rintro e w2 ⟨rfl,rfl⟩;have d2:=h1.box.cell 2;have d1:=h1.box.cell 1;have hn:=Lib.hid h1.names;have hsz:=Nm.uw1 S1.names;obtain⟨fA,fc,hfv,_,_,_⟩:=ay h1.files;simp only[Dw.cells,gE0,gE1]at d2 d1;rw[hfv]at d1;go_wp2_with (at_len;refine wpList_len_own _ rfl _ 90 rfl 9 3 Tryz.underlying90 _ X.nb _ _ rfl hn.out ?_;rw[hsz]);go_wp2
    go_still_tail 10,(by kernel_rfl)
    change wpList _ _ _ _ _ (World.drew w1);go_wp2_with (at_mapUpdate;refine wpList_mapUpdate_own _ rfl _ _ _ 90 rfl 9 3 jj1 Tryz.underlying90 _ X.nb _ _ rfl hn.out.drew hm2 _ _ _ rfl rfl hkey _ [] (plainElem_int Tryz.underlying3 hwf) ?_;intro w3 hown3 hgrow3);rw[HP.out]at hown3;have hc3:Chg [X.nb] w1 w3:=(Chg.refl [X.nb] w1).drew.trans (Chg.uy (F:=[X.nb]) hgrow3 (fun b hb=>by cases hb;simp)) (fun g hg=>.inl hg);have h3:=h1.lx1 hown3 hc3;clear hown3 hgrow3 HP hn d2 d1 hsz;have d4:=h3.box.cell 4;have d1:=h3.box.cell 1;have hxd:=h3.box.lt;obtain⟨tA,tc,htv,_,_,_⟩:=ay h3.turns;simp only[Dw.cells,gE0,gE1]at d4 d1;rw[htv]at d4;rw[hfv]at d1;have hrow4:=own_base h3.turns (Nat.zero_le _);rw[htv]at hrow4;have hpre:=fun(o:Obj) (w4:World) (hg:((w3.alloc o).drew).grownBy w4 (Value.slice tA S1.turns.length tc).ownBlock)=>(⟨(eq1 h3 (by rw[htv];exact hg)).cell 4,(eq1 h3 (by rw[htv];exact hg)).free 4⟩:w4.cell? ⟨X.d,4,none⟩=_∧w4.frozen? ⟨X.d,4,none⟩=false);have hpost:=fun(o:Obj) (w4:World) (v:Value) (hg:((w3.alloc o).drew).grownBy w4 (Value.slice tA S1.turns.length tc).ownBlock) hown hob=>sv2 (o:=o) (w4:=w4) (v:=v) h3 ⟨1,S1.files.length,s.data.toList,[]⟩ (by rw[htv];exact hg) hown (by rw[htv];exact hob);simp only[iw,by1]at hpost;have HPO:=Lib.hid hpost;have HPR:=Lib.hid hpre;obtain⟨i0,hi0,hz0,hz1,hz2⟩:=info_parts bz2;clear hpost hpre h1 htv;go_wp2
    go_region_law (refine zw1 rfl (.tmp 39) (.tmp 47) _ rfl 0 118 i0 _ 4 48 Tryz.underlying92 hi0 hz0 hz1 hz2 rfl (by omega) (Nat.zero_le _) (.slice tA S1.turns.length tc) S1.turns.length _ rfl (hrow4.alloc _).drew _ (some ⟨w3.heap.size,0,none⟩) 1 1 (by omega) [.int .i64 1,.int .i64 (S1.files.length:Int),.string s,.string ⟨#[]⟩] rfl (Row.new w3 #[.int .i64 1,.int .i64 (S1.files.length:Int),.string s,.string ⟨#[]⟩] 118 (n:=1) (size:=4) rfl).drew (by simp[Value.oneCell']) (S1.turns.length+1) _ rfl rfl (by unfold maxLen;omega) (by omega) ?_;intro A4 c4 w4 hown4 hg4 _ _ hob4;obtain⟨q4,q5⟩:=HPR.out _ _ hg4;have HO:=Lib.hid (HPO.out _ _ _ hg4 hown4 hob4);clear hg4 hown4 hob4;simp only[Dw.cells,gE0,gE1]at q4)
    all_goals
     obtain⟨h5,hc5,hf5⟩:=HO.out;clear HO HPO HPR hrow4 d4 d1 q4 q5 h3 hxd;generalize w4.setCell ⟨X.d,4,none⟩ (.slice A4 (S1.turns.length+1) c4)=w5 at *;have d1:=h5.box.cell 1;simp only[Dw.cells,gE0,gE1]at d1;rw[hfv]at d1;have hrow:=h5.files;have hpre:=fun(w6:World) (hg:(ey1 w5).grownBy w6 (Value.slice fA S1.files.length fc).ownBlock)=>(⟨(gj1 h5 (by simp only[hfv];exact hg)).cell 1,(gj1 h5 (by simp only[hfv];exact hg)).free 1⟩:w6.cell? ⟨X.d,1,none⟩=_∧w6.frozen? ⟨X.d,1,none⟩=false);have hpost:=fun(w6:World) (v:Value) (hg:(ey1 w5).grownBy w6 (Value.slice fA S1.files.length fc).ownBlock) hown hob=>iv4 (w4:=w6) (v:=v) h5 (by simp only[hfv];exact hg) hown (by simp only[hfv];exact hob);simp only[hfv]at hrow;have HPO:=Lib.hid hpost;have HPR:=Lib.hid hpre;have HRW:=Lib.hid hrow;clear hpost hpre hrow hfv;obtain⟨j0,hj0,hy0,hy1,hy2⟩:=info_parts qv3;have HTR:∀w7 S7,Upd { X with tv:=.slice A4 (S1.turns.length+1) c4 } w5 w7 S7→Upd X w w7 S7:=fun w7 S7 hu=>
      Upd.after hc1 (Upd.trans (X1:={ X with tv:=.slice A4 (S1.turns.length+1) c4 }) rfl ((hc3.mono (fun g hg=>.inl (by rw[List.mem_singleton.1 hg];exact aj.2 (.inr (.inl rfl))))).trans hc5 (fun g hg=>.inl hg)) (fun g hg=>by
       rcases hf5 g hg with h1|h1
       ·exact .inl h1
       ·exact .inr (Nat.le_trans hc3.size h1)) hu)
     have HT:=Lib.hid HTR;clear HTR hc1 hc3 hc5 hf5;go_wp2_with (at_builtin;refine jq ?_);refine gy (xq rfl (.tmp 55) (.tmp 58) _ rfl 0 114 j0 _ 1 8 Tryz.underlying91 hj0 hy0 hy1 hy2 rfl (by omega) (ey1 w5) (Below.refl _ _) (Nat.zero_le _) (.slice fA S1.files.length fc) S1.files.length _ rfl (own_below HRW.out (iy1 w5)) (w5.heap.size+2) (some ⟨w5.heap.size+1,0,none⟩) 1 1 (by omega) [.pointer (some ⟨w5.heap.size,0,none⟩)] (by simp[Act.eval]) ?rw (by simp[Value.oneCell']) (S1.files.length+1) _ rfl rfl (by unfold maxLen;omega) (by omega) ?_)
     case rw=>
      have h9:=Row.new (w5.alloc (.cells #[.slice none 0 0,.int .i64 0] 116)) #[.pointer (some ⟨w5.heap.size,0,none⟩)] 114 (n:=1) (size:=1) rfl;simpa using h9
     intro A6 c6 w6 hown6 _ hg6 _ _ hob6;obtain⟨q4,q5⟩:=HPR.out _ hg6;have HO:=Lib.hid (HT.out _ _ (HPO.out _ _ hg6 hown6 hob6));simp only[Dw.cells,gE0,gE1]at q4;clear hg6 hown6 hob6 HT HPO HPR HRW;go_wp2;go_ret;exact⟨rfl,HO.out⟩
 ·have hne:=neq0 h0
  rw[if_pos h0]at hsy;rw[hsy];clear hsy e1 e2 e3 e4 e5 h0 hld;go_enter Tryz.func27,Tryz.ntmps27;go_wp2_with fail;refine hcall.mono ?_;rintro e w1 ⟨rfl,h1,hc1⟩;go_wp2;go_ret;exact⟨rfl,Upd.called h1 hc1⟩
end
section
open Go Go.RowKit
theorem dq3 {P:Program} (w:World) (base:Nat) (t ty e:TypeId) (i:TypeInfo) (z:Value) (size bytes:Nat) (ht:P.underlying t=some (.slice e)) (hi:P.info? e=some i) (hz:i.zero=some z)
  (hsize:i.size=size) (hby:i.bytes=bytes) (hzs:z.cells.size=size) (hsz:0 < size) (v:Value) (n:Nat) (xs:List Value) (hown:w.ownsRow base e size v n xs)
  (B:Nat) (A:Option Addr) (m c:Nat) (news:List Value) (hr:Row B w A m size news) (h1:∀u∈news,u.oneCell'=true)
  (h63:n+m≤maxLen) (hbytes:(n+m)*bytes≤140737488355328) (hbase:base≤w.heap.size):
  ∃A' c' w',(Builtin.append_ #[t,t] ty #[v,.slice A m c]).run P w=.ok (.slice A' (n+m) c') w'∧w'.ownsRow base e size (.slice A' (n+m) c') (n+m) (xs++news)∧w.grownBy w' v.ownBlock∧n+m≤c'∧c'≤maxLen∧((Value.slice A' (n+m) c').ownBlock=v.ownBlock∨(Value.slice A' (n+m) c').ownBlock=some w.heap.size):=by
 rcases Nat.eq_zero_or_pos m with h0|h0
 ·subst h0
  have hn:news=[]:=List.eq_nil_of_length_eq_zero (by simpa using hr.len);subst hn;obtain⟨A',c',rfl,h5,h6,_⟩:=ay hown;rw[List.append_nil];refine⟨A',c',w,?_,hown,⟨rfl,rfl,rfl,Nat.le_refl _,fun _ _ _=>rfl⟩,h5,h6,.inl rfl⟩
  rcases hown.2 with ⟨hv,rfl⟩|⟨g,cap,cur,hv,_,_,hnc,_⟩
  ·cases hv
   rcases A with _|a<;>simp[Builtin.append_,run_underlying ht,sizeOf,typeInfo,hi,Builtin.lenOf,Builtin.firstCells,loadCells,loadCellsFrom]
  ·cases hv
   rcases A with _|a<;>simp[Builtin.append_,run_underlying ht,sizeOf,typeInfo,hi,Builtin.lenOf,Builtin.firstCells,loadCells,loadCellsFrom,hnc,storeCells]
 ·have hpos:0 < news.length:=by
   rw[hr.len];exact Nat.mul_pos h0 hsz
  obtain⟨a,rfl,_⟩:=hr.some_ hpos;obtain⟨v',w',h2,h3,h4,_,h6⟩:=run_append_own_at (P:=P) (ty:=ty) w base t e i z size bytes ht hi hz hsize hby hzs hsz v n xs hown a m c news hr.len hr.cells h1 h63 hbytes hbase;obtain⟨A',c',rfl,h5,h7,_⟩:=ay h3;exact⟨A',c',w',h2,h3,h4,h5,h7,h6⟩
theorem cz3 {P:Program} {w:World} {ops:Array Oper} {rest:List Oper} {o:Oper} {a:Act} {Q:Exit→Act→World→Prop} (hgd:o.guard=none) (s x:Operand) (t:TypeId)
  (ho:o.op=.call { callee:=.builtin .append,args:=#[s,x],argTypes:=#[t,t] })
  (base:Nat) (e:TypeId) (i:TypeInfo) (z:Value) (size bytes:Nat) (ht:P.underlying t=some (.slice e)) (hi:P.info? e=some i) (hz:i.zero=some z)
  (hsize:i.size=size) (hby:i.bytes=bytes) (hzs:z.cells.size=size) (hsz:0 < size) (hbase:base≤w.heap.size) (v:Value) (n:Nat) (xs:List Value) (hs:a.eval s=v) (hown:w.ownsRow base e size v n xs)
  (B:Nat) (A:Option Addr) (m c:Nat) (news:List Value) (hx:a.eval x=.slice A m c) (hr:Row B w A m size news) (h1:∀u∈news,u.oneCell'=true)
  (N:Nat) (X:List Value) (hN:n+m=N) (hX:xs++news=X) (h63:N≤maxLen) (hbytes:N *bytes≤140737488355328)
  (h:∀A' c' w',w'.ownsRow base e size (.slice A' N c') N X→w.grownBy w' v.ownBlock→N≤c'→c'≤maxLen→((Value.slice A' N c').ownBlock=v.ownBlock∨(Value.slice A' N c').ownBlock=some w.heap.size)→wpList P ops Q rest (a.put o.dst (.slice A' N c')) w'):wpList P ops Q (o::rest) a w:=by
 subst hN;subst hX;obtain⟨A',c',w',hrun,h3,h4,h5,h7,h6⟩:=dq3 (P:=P) w base t o.type e i z size bytes ht hi hz hsize hby hzs hsz v n xs hown B A m c news hr h1 h63 hbytes hbase;refine wpList_plain hgd fun _ hK=>?_;unfold Oper.wp execOp;simp only[ho,resolve,invoke,builtin,Sem.run_bind,Sem.run_pure,Result.andThen_ok,List.map_toArray,List.map_cons,List.map_nil,hs,hx,hrun];exact hK _ _ (h A' c' w' h3 h4 h5 h7 h6)
end
section
open Go Go.RowKit Go.Maps
theorem append_eq (S:Sd) (s b:List UInt8):S.append s b=if (S.call [s]).2≠0 then S.call [s] else match S.names.get s with
  |none=>((S.call [s]).1,11)
  |some i=>if 250000 < b.length∨250000 < S.size i+b.length then ((S.call [s]).1,2) else if S.quota < S.used+b.length then ((S.call [s]).1,15)
   else ({ (S.call [s]).1 with files:=S.files.set i ((S.files.getD i ([],0)).1++b,(S.files.getD i ([],0)).2) },0):=rfl
theorem Row.lw2 {w w':World} {B n size:Nat} {A:Option Addr} {xs:List Value} {G:List Nat} (r:Row B w A n size xs) (h:Chg G w w') (hB:B≤w.heap.size) (hF:∀a,A=some a→a.block∉G):Row w'.heap.size w' A n size xs:=
 (h.row r hB hF).up (Nat.le_trans hB h.size)
theorem DK.drew {w:World} {X:Dw} {S:Sd} (h:DK w X S):DK w.drew X S:=h.chg ((Chg.refl [] w).drew) (fun g hg=>by cases hg)
theorem uv4 {w w4:World} {X:Dw} {S:Sd} (h:DK w X S) {i:Nat} (hi:i < S.files.length) (hip:i < X.ps.length) {b:List UInt8} {v:Value} (hg:w.grownBy w4 (X.ps[i]).2.ownBlock)
  (hown:w4.ownsRow 0 5 1 v ((S.files[i]).1.length+b.length) (bts (S.files[i]).1++bts b)) (hob:v.ownBlock=(X.ps[i]).2.ownBlock∨v.ownBlock=some w.heap.size):
  (w4.cell? ⟨(X.ps[i]).1,0,none⟩=some (X.ps[i]).2∧w4.frozen? ⟨(X.ps[i]).1,0,none⟩=false)∧Upd X w (w4.setCell ⟨(X.ps[i]).1,0,none⟩ v) { S with files:=S.files.set i ((S.files[i]).1++b,(S.files[i]).2) }:=by
 have hfile:=h.file i hi hip;have hself:=h.apart.self _ (List.getElem_mem hip);have hv:∀g,v.ownBlock=some g→(X.ps[i]).2.ownBlock=some g∨w.heap.size≤g:=fun g e=>by
  rcases hob with h1|h1
  ·exact .inl (by rw[←h1,e])
  ·rw[e]at h1
   injection h1 with h1;exact .inr (by omega)
 have key:=fun(w2:World) (hf:mx1 w2 ((X.ps[i]).1,v) ((S.files[i]).1++b,(S.files[i]).2)) (c:Chg (bz X.ps[i]) w w2)=>DK.jy h hip hf c hv;have hfo:=ky2 hip hv;have hffo:=fun g hg=>jk1 (X:=X) (i:=i) hip (g:=g) hg;generalize S.files[i]=f at *;generalize X.ps[i]=p at *;obtain⟨hfb,hfr⟩:=hfile;have hc1:Chg p.2.ownBlock.toList w w4:=Chg.uy hg (fun b e=>by simp[e]);have hfb4:=hfb.chg hc1 (fun hm=>hself (by simpa using hm));have hset:=hfb4.store 0 v;have hcs:=pz w4 ⟨p.1,0,none⟩ v;have hvp:∀g,v.ownBlock=some g→g≠p.1:=fun g e e2=>by
  subst e2
  rcases hv _ e with h1|h1
  ·exact hself h1
  ·have:=hfb.lt
   omega
 have hrow:=ny hown hcs (fun g e hg=>hvp g e (by simpa using hg));have hcm:Chg (bz p) w (w4.setCell ⟨p.1,0,none⟩ v):=(hc1.mono (G:=bz p) (fun g hg=>.inl (by simp only[bz,List.mem_cons];exact .inr hg))).setCell v (.inl (by simp[bz]));have hdk:=key _ ⟨hset,by simpa [rk1] using hrow⟩ hcm;have e0:=hfb4.cell 0;simp only[gE0]at e0;exact⟨⟨e0,hfb4.free 0⟩,⟨{ X with ps:=X.ps.set i (p.1,v) },rfl,hdk,hcm.mono (fun g hg=>.inl (hffo g hg)),hfo⟩⟩
theorem sq1 (X:Dw) (S:Sd) (s:ByteArray) (hs:s.size≤maxLen) (A:Option Addr) (m c:Nat) (b:List UInt8) (hm:m≤1099511627776) (hw:S.Wf) (w:World) (h:DK w X S) (hr:Row w.heap.size w A m 1 (bts b)) (hA:∀a,A=some a→a.block≠X.d):
  Calls Tryz.prog 28 #[.pointer (some ⟨X.d,0,none⟩),.string s,.slice A m c] w fun e w'=>e=.returned (.int .i64 ((S.append s.data.toList b).2:Int))∧Upd X w w' (S.append s.data.toList b).1:=by
 have hcall:=jw4 X S s hs hw w h;have hw1:=hw.call [s.data.toList];have hbl:b.length=m:=hr.yz;obtain⟨e1,e2,e3,e4,e5,_,_⟩:=Sd.iy S [s.data.toList];have e6:=Sd.yz3 S [s.data.toList];have hsy:=append_eq S s.data.toList b;generalize S.call [s.data.toList]=R at *;obtain⟨S1,er⟩:=R;simp only at *
 by_cases h0:er=0
 ·subst h0
  rw[if_neg (by simp)]at hsy;have hfd:=fun w1 h1=>find_any X S1 s hs w1 h1 hw1.names
  cases h3:S.names.get s.data.toList with
  |none=>
   simp only[h3]at hsy;rw[hsy];simp only[e1,h3]at hfd;clear hsy h3 e1 e2 e3 e4 e5 e6 hw1 hw h hbl;go_enter Tryz.func28,Tryz.ntmps28;go_wp2_with fail;refine hcall.mono ?_;rintro e w1 ⟨rfl,h1,hc1⟩;go_wp2_with fail;refine(hfd w1 h1).mono ?_;rintro e w2 ⟨rfl,rfl⟩;go_wp2;go_ret;exact⟨rfl,Upd.called h1 hc1⟩
  |some i=>
   simp only[h3]at hsy;simp only[e1,h3]at hfd;have hi:i < S1.files.length:=by rw[e3];exact hw.names _ (Nm.get_mem h3)
   have hsz:S.size i=(S1.files[i]).1.length:=by simp[Sd.size,←e3,List.getD_eq_getElem?_getD,hi]
   have hgd:S.files.getD i ([],0)=S1.files[i]:=by simp[←e3,List.getD_eq_getElem?_getD,hi]
   have hlen:=(hw1.file i hi).2;have hus:=Sd.wk4 hw1;have hq:=hw1.quota;rw[hgd,hsz,←e3,←e5,←e6,hbl]at hsy;obtain⟨p,hp⟩:∃p,p=X.ps.getD i (0,Go.undef):=⟨_,rfl⟩;rw[←hp]at hfd;have hE:∀(w1:World) (h1:DK w1 X S1),∃fA fc,p.2=.slice fA (S1.files[i]).1.length fc∧w1.cell? ⟨p.1,0,none⟩=some (.slice fA (S1.files[i]).1.length fc):=fun w1 h1=>by
    have hip:i < X.ps.length:=by rw[h1.flen];exact hi
    have hptr:X.ps.getD i (0,Go.undef)=X.ps[i]:=by simp[List.getD_eq_getElem?_getD,hip]
    obtain⟨hfb,hfr⟩:=h1.file i hi hip;obtain⟨fA,fc,hfv,_⟩:=ay hfr;have e0:=hfb.cell 0;simp only[gE0]at e0;rw[hp,hptr];exact⟨fA,fc,hfv,by rw[e0,hfv]⟩
   by_cases hlong:250000 < m∨250000 < (S1.files[i]).1.length+m
   ·rw[if_pos hlong]at hsy
    rw[hsy];have HE:=Lib.hid hE;clear hp hE hsy hsz hgd h3 e1 e2 e3 e4 e5 e6 hw hbl h hus hq;generalize (S1.files[i]).1.length=F at *
    by_cases hl1:250000 < m
    ·have hl1':(250000:Int) < (m:Int):=by omega
     go_enter Tryz.func28,Tryz.ntmps28;go_wp2_with fail;refine hcall.mono ?_;rintro e w1 ⟨rfl,h1,hc1⟩;go_wp2_with fail;refine(hfd w1 h1).mono ?_;rintro e w2 ⟨rfl,rfl⟩;unfold ptrV;go_wp2;go_ret;exact⟨rfl,Upd.called h1 hc1⟩
    ·have hl1':((250000:Int) < (m:Int))=False:=by simp;omega
     have hl2':(250000:Int) - (m:Int) < (F:Int):=by omega
     go_enter Tryz.func28,Tryz.ntmps28;go_wp2_with fail;refine hcall.mono ?_;rintro e w1 ⟨rfl,h1,hc1⟩;go_wp2_with fail;refine(hfd w1 h1).mono ?_;rintro e w2 ⟨rfl,rfl⟩;obtain⟨fA,fc,_,e0⟩:=HE.out w1 h1;unfold ptrV;go_wp2;go_ret;exact⟨rfl,Upd.called h1 hc1⟩
   ·rw[if_neg hlong]at hsy
    have hl1':((250000:Int) < (m:Int))=False:=by simp;omega
    have hl2':((250000:Int) - (m:Int) < ((S1.files[i]).1.length:Int))=False:=by simp;omega
    have hsub:(250000:Int) - (m:Int)≤250000:=by omega
    have hm':m≤250000:=by omega
    have hip:∀w1,DK w1 X S1→i < X.ps.length:=fun w1 h1=>by rw[h1.flen];exact hi
    have hfin:∀(w1 w4:World) (v:Value) (h1:DK w1 X S1) (hg:w1.grownBy w4 p.2.ownBlock) (hown:w4.ownsRow 0 5 1 v ((S1.files[i]).1.length+m) (bts (S1.files[i]).1++bts b)) (hob:v.ownBlock=p.2.ownBlock∨v.ownBlock=some w1.heap.size),
      (w4.cell? ⟨p.1,0,none⟩=some p.2∧w4.frozen? ⟨p.1,0,none⟩=false)∧Upd X w1 (w4.setCell ⟨p.1,0,none⟩ v) { S1 with files:=S1.files.set i ((S1.files[i]).1++b,(S1.files[i]).2) }:=fun w1 w4 v h1 hg hown hob=>by
     have hptr:p=X.ps[i]'(hip w1 h1):=by rw[hp];simp[List.getD_eq_getElem?_getD,hip w1 h1]
     rw[hptr]at hg hob ⊢;exact uv4 h1 hi (hip w1 h1) hg (by rw[hbl];exact hown) hob
    have hrow:∀w1,DK w1 X S1→w1.ownsRow 0 5 1 p.2 (S1.files[i]).1.length (bts (S1.files[i]).1):=fun w1 h1=>by
     have hptr:p=X.ps[i]'(hip w1 h1):=by rw[hp];simp[List.getD_eq_getElem?_getD,hip w1 h1]
     rw[hptr];exact(h1.file i hi (hip w1 h1)).row
    have HE:=Lib.hid hE;have HFIN:=Lib.hid hfin;have HROW:=Lib.hid hrow;have huse:=fun w1 h1=>mz4 X S1 w1 h1 hw1.names (Nat.le_trans hus (by omega));clear hE hp hfin hrow hsz hgd h3 e1 e2 e3 e4 e5 e6 hw hbl h hlong hip;have hqd:∀w1,DK w1 X S1→w1.cell? ⟨X.d,0,none⟩=some (.int .i64 (S1.quota:Int)):=fun w1 h1=>by rw[h1.box.cell 0];rfl
    have HQD:=Lib.hid hqd;clear hqd;obtain⟨i0,hi0,hz0,hz1,hz2⟩:=info_parts gx1;have hq1:IntKind.i64.wrap ((S1.quota:Int) - (m:Int))=(S1.quota:Int) - (m:Int):=by
     have hb:-9223372036854775808≤(S1.quota:Int) - (m:Int)∧(S1.quota:Int) - (m:Int)≤9223372036854775807:=by omega
     rw[IntKind.wrap_i64];have hw:=IntWalk.wrap64_in _ hb;unfold wrap64 at hw;exact hw
    have HQ1:=Lib.hid hq1;clear hq1
    by_cases hqf:S1.quota < S1.used+m
    ·rw[if_pos hqf]at hsy
     rw[hsy];have hqf':(S1.quota:Int) - (m:Int) < (S1.used:Int):=by omega
     clear hsy hqf;generalize (S1.files[i]).1.length=F at *;go_enter Tryz.func28,Tryz.ntmps28;go_wp2_with fail;refine hcall.mono ?_;rintro e w1 ⟨rfl,h1,hc1⟩;go_wp2_with fail;refine(hfd w1 h1).mono ?_;rintro e w2 ⟨rfl,rfl⟩;obtain⟨fA,fc,hpv,e0⟩:=HE.out w1 h1;have q0:=HQD.out w1 h1;have hUSE:=Lib.hid huse;clear huse hpv;unfold ptrV;go_wp2;have hq1:=HQ1.out
     go_region_with ((go_at_call 76;refine(hUSE.out _ h1.drew).mono ?_;rintro e w2 ⟨rfl,hb2⟩;have q0:=HQD.out w2 (h1.drew.below hb2)))
     all_goals
      have hfinal:Upd X w w2 S1:=Upd.called (h1.drew.below hb2) (hc1.trans ((Chg.refl [X.d] w1).drew.trans (Chg.of_below hb2 [X.d]) (fun g hg=>.inl hg)) (fun g hg=>.inl hg));clear q0;go_wp2;go_ret;exact⟨rfl,hfinal⟩
    ·rw[if_neg hqf]at hsy
     rw[hsy];have hqf':((S1.quota:Int) - (m:Int) < (S1.used:Int))=False:=by simp;omega
     clear hsy hqf;obtain⟨f,hf⟩:∃f,f=S1.files[i]:=⟨_,rfl⟩;rw[←hf]at HROW HFIN HE hl2' hlen ⊢;clear hf;go_enter Tryz.func28,Tryz.ntmps28;go_wp2_with fail;refine hcall.mono ?_;rintro e w1 ⟨rfl,h1,hc1⟩;go_wp2_with fail;refine(hfd w1 h1).mono ?_;rintro e w2 ⟨rfl,rfl⟩;obtain⟨fA,fc,hpv,e0⟩:=HE.out w1 h1;have HPV:=Lib.hid hpv;have q0:=HQD.out w1 h1;have hUSE:=Lib.hid huse;have hrA:=Lib.hid (Row.lw2 hr hc1 (Nat.le_refl _) (fun a e hg=>hA a e (by simpa using hg)));clear huse hpv;unfold ptrV;go_wp2;have hq1:=HQ1.out
     go_region_with ((go_at_call 76;refine(hUSE.out _ h1.drew).mono ?_;rintro e w2 ⟨rfl,hb2⟩;have q0:=HQD.out w2 (h1.drew.below hb2)))
     all_goals
      have h2:=h1.drew.below hb2;have hc2:Chg [X.d] w w2:=hc1.trans ((Chg.refl [X.d] w1).drew.trans (Chg.of_below hb2 [X.d]) (fun g hg=>.inl hg)) (fun g hg=>.inl hg);have hr2:=Lib.hid ((hrA.out.drew.below hb2).arg (Nat.le_trans (by simp) hb2.size));have e2:w2.cell? ⟨p.1,0,none⟩=some (.slice fA f.1.length fc):=by
       obtain⟨fA',fc',h7,h8⟩:=HE.out w2 h2;rw[h8,←h7,HPV.out]
      have hrw:=HROW.out w2 h2;rw[HPV.out]at hrw;have HRW:=Lib.hid hrw;have hfn:=fun w4 v=>HFIN.out w2 w4 v h2;rw[HPV.out]at hfn;have HFN:=Lib.hid hfn;clear q0 e0 hrw hfn hrA hq1 hl2';go_wp2_with (at_builtin;refine jq ?_);refine gy (cz3 rfl (.tmp 52) (.tmp 53) _ rfl 0 5 i0 _ 1 1 Tryz.underlying56 hi0 hz0 hz1 hz2 rfl (by omega) (Nat.zero_le _) (.slice fA f.1.length fc) f.1.length _ rfl HRW.out _ A m c (bts b) rfl hr2.out (ak1 _) (f.1.length+m) _ rfl rfl (by unfold maxLen;omega) (by omega) ?_);intro A4 c4 w4 hown4 hg4 _ _ hob4;obtain⟨⟨q4,q5⟩,hup⟩:=HFN.out _ _ hg4 hown4 hob4;have HU:=Lib.hid (Upd.after hc2 hup);clear hown4 hg4 hob4 HRW HFN hup e2;go_wp2;go_ret;exact⟨rfl,HU.out⟩
 ·have hne:=neq0 h0
  rw[if_pos h0]at hsy;rw[hsy];clear hsy e1 e2 e3 e4 e5 h0 e6;go_enter Tryz.func28,Tryz.ntmps28;go_wp2_with fail;refine hcall.mono ?_;rintro e w1 ⟨rfl,h1,hc1⟩;go_wp2;go_ret;exact⟨rfl,Upd.called h1 hc1⟩
end
section
open Go Go.RowKit Go.Shelf
structure Dm (w:World) (X:Dw) (S:Sd):Prop where
 dk:DK w X S
 wf:S.Wf
 env:Env w
 base:∀g∈X.foot,NG≤g
theorem Dm.below {w w':World} {X:Dw} {S:Sd} (h:Dm w X S) (hb:Below w.heap.size w w'):Dm w' X S:=⟨h.dk.below hb,h.wf,h.env.below hb,h.base⟩
theorem Dm.chg {w w':World} {X:Dw} {S:Sd} {G:List Nat} (h:Dm w X S) (c:Chg G w w') (hG:∀g∈G,g∉X.foot∧NG≤g):Dm w' X S:=⟨h.dk.chg c (fun g hg=>(hG g hg).1),h.wf,h.env.chg c (fun g hg=>(hG g hg).2),h.base⟩
def UpdM (X:Dw) (w w':World) (S':Sd):Prop:=∃X',X'.d=X.d∧Dm w' X' S'∧Chg X.foot w w'∧∀g∈X'.foot,g∈X.foot∨w.heap.size≤g
theorem Dm.upd {w w':World} {X:Dw} {S S':Sd} (h:Dm w X S) (hw:S'.Wf) (hu:Upd X w w' S'):UpdM X w w' S':=by
 obtain⟨X',e,hd,hc,hf⟩:=hu;have hb:=h.env.base;exact⟨X',e,⟨hd,hw,h.env.chg hc h.base,fun g hg=>by
  rcases hf g hg with h1|h1
  ·exact h.base g h1
  ·omega⟩,hc,hf⟩
theorem UpdM.trans {w w1 w2:World} {X X1:Dw} {S2:Sd} (e:X1.d=X.d) (c:Chg X.foot w w1) (hf:∀g∈X1.foot,g∈X.foot∨w.heap.size≤g) (h2:UpdM X1 w1 w2 S2):UpdM X w w2 S2:=by
 obtain⟨X',e',h,c',hf'⟩:=h2;refine⟨X',e'.trans e,h,c.trans c' (fun g hg=>hf g hg),fun g hg=>?_⟩
 rcases hf' g hg with h3|h3
 ·exact hf g h3
 ·exact .inr (Nat.le_trans c.size h3)
theorem lv1 {S:Sd} (hw:S.Wf):∀s∈S.list,Sd.named s=true:=by
 intro s hs;unfold Sd.list at hs;split at hs
 ·cases hs
 ·rw[List.mem_mergeSort]at hs
  obtain⟨p,hp,rfl⟩:=List.mem_map.1 hs;exact hw.gnames p hp
theorem dw1 {s:List UInt8} (h:Sd.named s=true):1≤s.length∧s.length≤16:=by
 simp only[Sd.named,Bool.and_eq_true,decide_eq_true_eq]at h;exact h.1
theorem oz1 {S:Sd} (hw:S.Wf):S.list.length≤64:=by
 unfold Sd.list;split
 ·simp
 ·rw[List.length_mergeSort,List.length_map];exact hw.most
theorem Row.enc {B n:Nat} {w:World} {A:Option Addr} {ss:List (List UInt8)} (h:Row B w A n 1 (ss.map Go.Proofs.encStr)) {k:Nat} (hk:k < n):∃a,∃hl:k < ss.length,A=some a∧a.block < B∧w.cell? (a.add k)=some (.string (str ss[k])):=by
 obtain⟨a,v,e,hb,hv,hc⟩:=h.at1 hk;have hl:k < ss.length:=by
  have:=h.len;simp at this;omega
 rw[List.getElem?_map,List.getElem?_eq_getElem hl]at hv;injection hv with hv;subst hv;exact⟨a,hl,e,hb,hc⟩
theorem write_any (X:Dw) (S:Sd) (s:ByteArray) (hs:s.size≤maxLen) (A:Option Addr) (m c:Nat) (b:List UInt8) (hm:m≤1099511627776) (hl:S.load≤1099511627776) (w:World) (h:Dm w X S) (hr:Row w.heap.size w A m 1 (bts b)) (hA:∀a,A=some a→a.block∉X.foot):
  Calls Tryz.prog 249 #[.pointer (some ⟨X.d,0,none⟩),.string s,.slice A m c] w fun e w'=>e=.returned (.int .i64 ((S.write s.data.toList b).2:Int))∧UpdM X w w' (S.write s.data.toList b).1:=by
 have hcr:=iz2 X S s hs h.wf hl w h.dk;have hw1:=h.wf.create s.data.toList;have hup1:=fun w1 (hu:Upd X w w1 (S.create s.data.toList).1)=>h.upd hw1 hu;have hsy:S.write s.data.toList b=if (S.create s.data.toList).2≠0 then S.create s.data.toList else if ((S.create s.data.toList).1.append s.data.toList b).2≠0 then (S.create s.data.toList).1.append s.data.toList b
  else ((S.create s.data.toList).1.append s.data.toList b).1.sync s.data.toList:=rfl
 generalize S.create s.data.toList=R1 at *;obtain⟨S1,e1⟩:=R1;simp only at *
 by_cases h0:e1=0
 ·subst h0
  rw[if_neg (by simp)]at hsy;have hw2:=hw1.append s.data.toList b;have hap:=fun X1 w1 (h1:DK w1 X1 S1) hr1 hA1=>sq1 X1 S1 s hs A m c b hm hw1 w1 h1 hr1 hA1;generalize S1.append s.data.toList b=R2 at *;obtain⟨S2,e2⟩:=R2;simp only at *
  by_cases h1:e2=0
  ·subst h1
   rw[if_neg (by simp)]at hsy;have hw3:=hw2.sync s.data.toList;have hsn:=fun X1 w1 (h1:DK w1 X1 S2)=>sync_any X1 S2 s hs hw2 w1 h1;generalize S2.sync s.data.toList=R3 at *;obtain⟨S3,e3⟩:=R3;simp only at *;rw[hsy];clear hsy;have HR:=Lib.hid hr;have HA:=Lib.hid hA;clear hr hA;go_enter Tryz.func249,Tryz.ntmps249;go_wp2_with fail;refine hcr.mono ?_;rintro e w1 ⟨rfl,hu1⟩;obtain⟨X1,ed1,hd1,hc1,hf1⟩:=hup1 w1 hu1;have hr1:=Row.lw2 HR.out hc1 (Nat.le_refl _) HA.out;have hA1:∀a,A=some a→a.block≠X1.d:=fun a ha=>by rw[ed1];exact fun e=>HA.out a ha (by rw[e];exact aj.2 (.inl rfl))
   have hcall2:=hap X1 w1 hd1.dk hr1 hA1;rw[ed1]at hcall2;have H2:=Lib.hid hcall2;clear hcall2 hA1 hap hup1 hu1 hr1;go_wp2_with fail;refine H2.out.mono ?_;rintro e w2 ⟨rfl,hu2⟩;obtain⟨X2,ed2,hd2,hc2,hf2⟩:=hd1.upd hw2 hu2;have hcall3:=hsn X2 w2 hd2.dk;rw[ed2,ed1]at hcall3;have H3:=Lib.hid hcall3;clear hcall3 hsn hu2;go_wp2_with fail;refine H3.out.mono ?_;rintro e w3 ⟨rfl,hu3⟩;have hfin:=UpdM.trans ed1 hc1 hf1 (UpdM.trans ed2 hc2 hf2 (hd2.upd hw3 hu3));clear hu3;go_wp2;go_ret;exact⟨rfl,hfin⟩
  ·have hne:=neq0 h1
   rw[if_pos h1]at hsy;rw[hsy];clear hsy;have HR:=Lib.hid hr;have HA:=Lib.hid hA;clear hr hA h1;go_enter Tryz.func249,Tryz.ntmps249;go_wp2_with fail;refine hcr.mono ?_;rintro e w1 ⟨rfl,hu1⟩;obtain⟨X1,ed1,hd1,hc1,hf1⟩:=hup1 w1 hu1;have hr1:=Row.lw2 HR.out hc1 (Nat.le_refl _) HA.out;have hA1:∀a,A=some a→a.block≠X1.d:=fun a ha=>by rw[ed1];exact fun e=>HA.out a ha (by rw[e];exact aj.2 (.inl rfl))
   have hcall2:=hap X1 w1 hd1.dk hr1 hA1;rw[ed1]at hcall2;have H2:=Lib.hid hcall2;clear hcall2 hA1 hap hup1 hu1 hr1;go_wp2_with fail;refine H2.out.mono ?_;rintro e w2 ⟨rfl,hu2⟩;have hfin:=UpdM.trans ed1 hc1 hf1 (hd1.upd hw2 hu2);clear hu2;go_wp2;go_ret;exact⟨rfl,hfin⟩
 ·have hne:=neq0 h0
  rw[if_pos h0]at hsy;rw[hsy];clear hsy h0;go_enter Tryz.func249,Tryz.ntmps249;go_wp2_with fail;refine hcr.mono ?_;rintro e w1 ⟨rfl,hu1⟩;have hfin:=hup1 w1 hu1;clear hu1 hup1;go_wp2;go_ret;exact⟨rfl,hfin⟩
end
section
open Go Go.RowKit
namespace Once
theorem disable (w:World):(callFunc 363 #[]).run Tryz.prog w=.ok (.value (.tuple #[])) w:=run_call_mark0 Tryz.func363 (by kernel_rfl) (by kernel_rfl) (by kernel_rfl) .disable (by kernel_rfl) w
theorem enable (w:World):(callFunc 365 #[]).run Tryz.prog w=.ok (.value (.tuple #[])) w:=run_call_mark0 Tryz.func365 (by kernel_rfl) (by kernel_rfl) (by kernel_rfl) .enable (by kernel_rfl) w
theorem acquire (a:Addr) (w:World):(callFunc 366 #[.pointer (some a)]).run Tryz.prog w=.ok (.value (.tuple #[])) w:=run_call_marked Tryz.func366 (by kernel_rfl) (by kernel_rfl) (by kernel_rfl) .acquire (by kernel_rfl) a w
theorem releaseMerge (a:Addr) (w:World):(callFunc 368 #[.pointer (some a)]).run Tryz.prog w=.ok (.value (.tuple #[])) w:=run_call_marked Tryz.func368 (by kernel_rfl) (by kernel_rfl) (by kernel_rfl) .releaseMerge (by kernel_rfl) a w
theorem store_deferred (a:Addr) (x:Value) (u:FrameMode) (w:World) (hc:w.cell? a=some x) (hz:w.frozen? a=false):
  CallsD Tryz.prog 318 #[.pointer (some a),.bool true] u w fun e u' w'=>u'=u∧(e=.returned (.tuple #[])∧w'=w.drew.setCell a (.int .u32 1)):=by
 have hc':w.drew.cell? a=some x:=by go_simp
 have hz':w.drew.frozen? a=false:=by go_simp
 have hst:=run_call_store (P:=Tryz.prog) Tryz.func346 (by kernel_rfl) (by kernel_rfl) (by kernel_rfl) (by kernel_rfl) (k:=.u32) (y:=1) hc' hz';go_enter_d Tryz.func318,Tryz.ntmps318;go_wp2
 go_region_calls
 all_goals (go_end0;exact⟨rfl,rfl⟩)
theorem unlock_deferred (a:Addr) (u:FrameMode) (w:World) (hc:w.cell? a=some (.int .i32 1)) (hz:w.frozen? a=false):
  CallsD Tryz.prog 317 #[.pointer (some a)] u w fun e u' w'=>u'=u∧(e=.returned (.tuple #[])∧w'=w.setCell a (.int .i32 0)):=by
 have hd:=disable;have he:=enable;have hr:=releaseMerge;have hadd:=run_call_add (P:=Tryz.prog) Tryz.func369 (by kernel_rfl) (by kernel_rfl) (by kernel_rfl) .i32 (by kernel_rfl) (y:=-1) (s:=0) hc hz (by simp[go_sem];rfl)
 first|have hcv:=run_convert_to_unsafe (P:=Tryz.prog) (src:=418) (dst:=295) Tryz.underlying418 Tryz.underlying295 (by kernel_rfl) hc|have hcv:=run_convert_to_unsafe (P:=Tryz.prog) (src:=490) (dst:=295) Tryz.underlying490 Tryz.underlying295 (by kernel_rfl) hc
 go_enter_d Tryz.func317,Tryz.ntmps317;go_wp2
 go_end0
 go_wp2
 go_end0
 exact⟨rfl,rfl⟩
theorem lock_free (a:Addr) (w:World) (hc:w.cell? a=some (.int .i32 0)) (hz:w.frozen? a=false):
  Calls Tryz.prog 316 #[.pointer (some a)] w fun e w'=>e=.returned (.tuple #[])∧w'=w.setCell a (.int .i32 1):=by
 have hd:=disable;have he:=enable;have ha:=acquire;have hcas:=run_call_cas_hit (P:=Tryz.prog) Tryz.func364 (by kernel_rfl) (by kernel_rfl) (by kernel_rfl) .i32 (by kernel_rfl) (y:=1) hc hz;have hc':(w.setCell a (.int .i32 1)).cell? a=some (.int .i32 1):=World.cell?_setCell_same w a _ hc
 first|have hcv:=run_convert_to_unsafe (P:=Tryz.prog) (src:=418) (dst:=295) Tryz.underlying418 Tryz.underlying295 (by kernel_rfl) hc'|have hcv:=run_convert_to_unsafe (P:=Tryz.prog) (src:=490) (dst:=295) Tryz.underlying490 Tryz.underlying295 (by kernel_rfl) hc'
 go_enter Tryz.func316,Tryz.ntmps316;go_wp2
 first|go_end0|(simp only[Exit.inBlock,Exit.then];refine bodyPost_ret (results_none rfl _ _ _) rfl ?_)|refine bodyPost_ret (results_none rfl _ _ _) rfl ?_
 go_wp2
 go_end0
 exact⟨rfl,rfl⟩
end Once
end
section
open Go Go.RowKit
namespace Once
theorem slow_any (b:Nat) (pl:Addr) (hpb:¬b=pl.block) (x3:Value) (w:World) (hp:w.cell? pl=some (.pointer (some ⟨b,0,none⟩)))
  (h0:w.cell? ⟨b,9,none⟩=some (.int .u32 0)) (h1:w.cell? ⟨b,10,none⟩=some (.int .i32 0)) (h3:w.cell? ⟨b,12,none⟩=some x3)
  (f0:w.frozen? ⟨b,9,none⟩=false) (f1:w.frozen? ⟨b,10,none⟩=false) (f3:w.frozen? ⟨b,12,none⟩=false):
  Calls Tryz.prog 267 #[.pointer (some ⟨b,9,none⟩),.func (.func 308) #[] #[.pointer (some pl)]] w fun e w'=>e=.returned (.tuple #[])∧
   w'=(((w.setCell ⟨b,10,none⟩ (.int .i32 1)).setCell ⟨b,12,none⟩ (.bool true)).drew.setCell ⟨b,9,none⟩ (.int .u32 1)).setCell ⟨b,10,none⟩ (.int .i32 0):=by
 have hl:=run_call_load (P:=Tryz.prog) Tryz.func315 (by kernel_rfl) (by kernel_rfl) (by kernel_rfl) .u32 (by kernel_rfl) (w:=w.setCell ⟨b,10,none⟩ (.int .i32 1)) (a:=⟨b,9,none⟩) (x:=0) ((World.cell?_setCell_other _ ⟨b,10,none⟩ ⟨b,9,none⟩ _ (by simp)).trans h0);have hp1:(w.setCell ⟨b,10,none⟩ (.int .i32 1)).cell? pl=some (.pointer (some ⟨b,0,none⟩)):=(World.cell?_setCell_other _ ⟨b,10,none⟩ pl _ (fun h=>hpb (by rw[←h]))).trans hp;have h31:(w.setCell ⟨b,10,none⟩ (.int .i32 1)).cell? ⟨b,12,none⟩=some x3:=(World.cell?_setCell_other _ ⟨b,10,none⟩ ⟨b,12,none⟩ _ (by simp)).trans h3;have hnot:∀(x:Bool) (w:World),(Op.unary .not (.bool x)).run Tryz.prog w=.ok (.bool (!x)) w:=fun _ _=>rfl;go_enter_defers Tryz.func267,Tryz.ntmps267;go_wp2_with (go_at_call 316;refine(lock_free ⟨b,10,none⟩ _ (by go_simp) (by go_simp)).mono ?_;rintro e w' ⟨rfl,rfl⟩);go_wp2
 go_end0
 go_wp2;refine leaves_cons (f:=318) (args:=#[.pointer (some ⟨b,9,none⟩),.bool true]) (by simp) (by simp[go_sem]) ?_;refine(store_deferred ⟨b,9,none⟩ (.int .u32 0) .returning _ ?_ (by simp[f0])).mono ?_
 ·exact(World.cell?_setCell_other _ ⟨b,12,none⟩ ⟨b,9,none⟩ _ (by simp)).trans ((World.cell?_setCell_other _ ⟨b,10,none⟩ ⟨b,9,none⟩ _ (by simp)).trans h0)
 rintro e u' w'' ⟨rfl,rfl,rfl⟩;refine leaves_cons (f:=317) (args:=#[.pointer (some ⟨b,10,none⟩)]) (by simp[settle]) (by simp[go_sem]) ?_;refine(unlock_deferred ⟨b,10,none⟩ _ _ ?_ (by simp[f1])).mono ?_
 ·refine(World.cell?_setCell_other _ ⟨b,9,none⟩ ⟨b,10,none⟩ _ (by simp)).trans ?_
  rw[World.cell?_drew];exact(World.cell?_setCell_other _ ⟨b,12,none⟩ ⟨b,10,none⟩ _ (by simp)).trans (World.cell?_setCell_same w _ _ h1)
 rintro e u' w'' ⟨rfl,rfl,rfl⟩;simp[Leaves,settle,results,Tryz.results267]
theorem do_first (b:Nat) (pl:Addr) (hpb:¬b=pl.block) (x3:Value) (w:World) (hp:w.cell? pl=some (.pointer (some ⟨b,0,none⟩)))
  (h0:w.cell? ⟨b,9,none⟩=some (.int .u32 0)) (h1:w.cell? ⟨b,10,none⟩=some (.int .i32 0)) (h3:w.cell? ⟨b,12,none⟩=some x3)
  (f0:w.frozen? ⟨b,9,none⟩=false) (f1:w.frozen? ⟨b,10,none⟩=false) (f3:w.frozen? ⟨b,12,none⟩=false):
  Calls Tryz.prog 214 #[.pointer (some ⟨b,9,none⟩),.func (.func 308) #[] #[.pointer (some pl)]] w fun e w'=>e=.returned (.tuple #[])∧w'=((((w.setCell ⟨b,10,none⟩ (.int .i32 1)).setCell ⟨b,12,none⟩ (.bool true)).drew.setCell ⟨b,9,none⟩ (.int .u32 1)).setCell ⟨b,10,none⟩ (.int .i32 0)):=by
 have hl:=run_call_load (P:=Tryz.prog) Tryz.func315 (by kernel_rfl) (by kernel_rfl) (by kernel_rfl) .u32 (by kernel_rfl) h0;have hnot:∀(x:Bool) (w:World),(Op.unary .not (.bool x)).run Tryz.prog w=.ok (.bool (!x)) w:=fun _ _=>rfl;go_enter Tryz.func214,Tryz.ntmps214;go_wp2_with (first|(go_at_call 267;refine(slow_any b pl hpb x3 _ hp h0 h1 h3 f0 f1 f3).mono ?_;rintro e w' ⟨rfl,rfl⟩)|(go_at_call 266;go_in))
 go_end0
 exact⟨rfl,rfl⟩
theorem do_done (a:Addr) (d:Int) (hd:¬d=0) (fv:Value) (w:World) (h0:w.cell? a=some (.int .u32 d)):
  Calls Tryz.prog 214 #[.pointer (some a),fv] w fun e w'=>e=.returned (.tuple #[])∧w'=w:=by
 have hl:=run_call_load (P:=Tryz.prog) Tryz.func315 (by kernel_rfl) (by kernel_rfl) (by kernel_rfl) .u32 (by kernel_rfl) h0;have hnot:∀(x:Bool) (w:World),(Op.unary .not (.bool x)).run Tryz.prog w=.ok (.bool (!x)) w:=fun _ _=>rfl;have hd':(d !=0)=true:=by simp[hd]
 go_enter Tryz.func214,Tryz.ntmps214;go_wp2
 go_end0
 exact⟨rfl,rfl⟩
end Once
end
end Go.Proofs.YthjdpplgfdihoaaGreatDoor
