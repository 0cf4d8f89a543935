/- Texts ManC, LogA, IConcat, ChunkA, ChunkB, BlockA, BloomA, Apply in one. No conditions. -/
import Derived.Test.YthjdpplgfdihoaaGreatDoorBunAK
import Derived.Test.YthjdpplgfdihoaaGreatDoorBunAA
import Derived.Test.YthjdpplgfdihoaaGreatDoorBunAD
import Derived.Test.YthjdpplgfdihoaaGreatDoorBunAE
import Derived.Test.YthjdpplgfdihoaaGreatDoorBunAI
import Derived.Test.YthjdpplgfdihoaaGreatDoorBunAH
import Derived.RangeFuncBox
import Derived.RangeFuncNested
import Derived.RangeFuncBound
import Derived.RangeFuncCalls
import Derived.RangeFuncLeaves
import Derived.Shelf.Abstract
import Derived.Shelf.RegionOpen
import Derived.WalkKit
import Derived.OwnWalkIn
import Derived.TacticsInMore
import Derived.LoopNIn
import Derived.LoopIn
import Derived.Maps.AppendAt
import Derived.Maps.OwnIn
import Derived.Test.YthjdpplgfdihoaaGreatDoorBunAJ
import Derived.Deep.RegionHeld3
import Derived.Test.YthjdpplgfdihoaaGreatDoorBunAG

set_option linter.unusedSimpArgs false
set_option linter.unusedVariables false
set_option maxRecDepth 100000
set_option maxHeartbeats 16000000
namespace Go.Proofs.YthjdpplgfdihoaaGreatDoor
section
open Go Go.RowKit Go.Shelf
structure Acc (F:List Nat) (X:Dw) (w:World) (S:Sd) (w':World) (X':Dw):Prop where
 e:X'.d=X.d
 dm:Dm w' X' S
 c:Chg (F++X.foot) w w'
 f:∀g∈X'.foot,g∈X.foot∨w.heap.size≤g
variable {F:List Nat} {X X1:Dw} {w w1 w2:World} {S S1:Sd}
theorem Acc.start (h:Dm w X S):Acc F X w S w X:=⟨rfl,h,Chg.refl _ _,fun _ hg=>.inl hg⟩
theorem Acc.below (h:Acc F X w S w1 X1) (hb:Below w1.heap.size w1 w2):Acc F X w S w2 X1:=⟨h.e,h.dm.below hb,h.c.trans (Chg.of_below hb []) (fun g hg=>by cases hg),h.f⟩
theorem Acc.step (h:Acc F X w S w1 X1) (hu:UpdM X1 w1 w2 S1):∃X2,Acc F X w S1 w2 X2:=by
 obtain⟨X2,e,hd,hc,hf⟩:=hu;refine⟨X2,e.trans h.e,hd,h.c.trans hc (fun g hg=>?_),fun g hg=>?_⟩
 ·rcases h.f g hg with h1|h1
  ·exact .inl (List.mem_append_right _ h1)
  ·exact .inr h1
 ·rcases hf g hg with h1|h1
  ·exact h.f g h1
  ·exact .inr (Nat.le_trans h.c.size h1)
theorem Acc.other (h:Acc F X w S w1 X1) {G:List Nat} (c:Chg G w1 w2) (hG:∀g∈G,g∈F∧g < w.heap.size∧g∉X.foot∧NG≤g):Acc F X w S w2 X1:=by
 refine⟨h.e,h.dm.chg c (fun g hg=>⟨fun hm=>?_,(hG g hg).2.2.2⟩),h.c.trans c (fun g hg=>.inl (List.mem_append_left _ (hG g hg).1)),h.f⟩;obtain⟨_,h2,h3,_⟩:=hG g hg
 rcases h.f g hm with h4|h4
 ·exact h3 h4
 ·omega
theorem Acc.updM (h:Acc [] X w S w1 X1):UpdM X w w1 S:=⟨X1,h.e,h.dm,by simpa using h.c,h.f⟩
theorem Acc.read (h:Acc F X w S w1 X1) (s:ByteArray) (hs:s.size≤maxLen):
  Calls Tryz.prog 25 #[.pointer (some ⟨X.d,0,none⟩),.string s] w1 fun e w'=>∃A c,e=.returned (.tuple #[.slice A (S.read s.data.toList).1.length c,.int .i64 ((S.read s.data.toList).2:Int)])∧
   w'.ownsRow w1.heap.size 5 1 (.slice A (S.read s.data.toList).1.length c) (S.read s.data.toList).1.length (bts (S.read s.data.toList).1)∧Below w1.heap.size w1 w':=by
 rw[←h.e];exact vq1 X1 S s hs h.dm.wf w1 h.dm.dk
theorem Acc.append (h:Acc F X w S w1 X1) (s:ByteArray) (hs:s.size≤maxLen) (A:Option Addr) (m c:Nat) (b:List UInt8) (hm:m≤1099511627776) (hr:Row w1.heap.size w1 A m 1 (bts b)) (hA:∀a,A=some a→a.block∉X1.foot):
  Calls Tryz.prog 28 #[.pointer (some ⟨X.d,0,none⟩),.string s,.slice A m c] w1 fun e w'=>e=.returned (.int .i64 ((S.append s.data.toList b).2:Int))∧∃X2,Acc F X w (S.append s.data.toList b).1 w' X2:=by
 rw[←h.e];exact(sq1 X1 S s hs A m c b hm h.dm.wf w1 h.dm.dk hr (fun a ha e=>hA a ha (by rw[e];exact aj.2 (.inl rfl)))).mono fun e w' ⟨h1,h2⟩=>⟨h1,h.step (h.dm.upd (h.dm.wf.append _ _) h2)⟩
theorem Acc.create (h:Acc F X w S w1 X1) (s:ByteArray) (hs:s.size≤maxLen) (hl:S.load≤1099511627776):
  Calls Tryz.prog 27 #[.pointer (some ⟨X.d,0,none⟩),.string s] w1 fun e w'=>e=.returned (.int .i64 ((S.create s.data.toList).2:Int))∧∃X2,Acc F X w (S.create s.data.toList).1 w' X2:=by
 rw[←h.e];exact(iz2 X1 S s hs h.dm.wf hl w1 h.dm.dk).mono fun e w' ⟨h1,h2⟩=>⟨h1,h.step (h.dm.upd (h.dm.wf.create _) h2)⟩
theorem Acc.sync (h:Acc F X w S w1 X1) (s:ByteArray) (hs:s.size≤maxLen):
  Calls Tryz.prog 29 #[.pointer (some ⟨X.d,0,none⟩),.string s] w1 fun e w'=>e=.returned (.int .i64 ((S.sync s.data.toList).2:Int))∧∃X2,Acc F X w (S.sync s.data.toList).1 w' X2:=by
 rw[←h.e];exact(sync_any X1 S s hs h.dm.wf w1 h.dm.dk).mono fun e w' ⟨h1,h2⟩=>⟨h1,h.step (h.dm.upd (h.dm.wf.sync _) h2)⟩
theorem Acc.remove (h:Acc F X w S w1 X1) (s:ByteArray) (hs:s.size≤maxLen) (hl:S.load≤1099511627776):
  Calls Tryz.prog 26 #[.pointer (some ⟨X.d,0,none⟩),.string s] w1 fun e w'=>e=.returned (.int .i64 ((S.remove s.data.toList).2:Int))∧∃X2,Acc F X w (S.remove s.data.toList).1 w' X2:=by
 rw[←h.e];exact(lq1 X1 S s hs h.dm.wf hl w1 h.dm.dk).mono fun e w' ⟨h1,h2⟩=>⟨h1,h.step (h.dm.upd (h.dm.wf.remove _) h2)⟩
theorem Acc.list (h:Acc F X w S w1 X1):
  Calls Tryz.prog 24 #[.pointer (some ⟨X.d,0,none⟩)] w1 fun e w'=>∃A c,e=.returned (.slice A S.list.length c)∧w'.ownsRow w1.heap.size 9 1 (.slice A S.list.length c) S.list.length (S.list.map Go.Proofs.encStr)∧Below w1.heap.size w1 w':=by
 rw[←h.e];exact vx3 X1 S h.dm.wf w1 h.dm.dk
end
section
open Go Go.RowKit Go.Lib Go.Shelf
theorem sx3 (L:Option Addr) (m d:Nat) (l:List It) (w:World) (h0:0 < m) (hm:m≤1000) (hq:Row w.heap.size w L m 5 (itc l)) (hk:∀x∈l,x.ok=true∧x.fit):
  Calls Tryz.prog 210 #[.slice L m d] w fun e w'=>∃A' M c',e=.returned (.tuple #[.slice A' M c',.int .i64 0])∧
   w'.ownsRow w.heap.size 5 1 (.slice A' M c') M (bts (Lg.batch l))∧M≤c'∧c'≤maxLen∧Below w.heap.size w w':=by
 have hmn:=hq.bj1;have hib:=pw3 none 0 0 [] L m d l w (by omega) (by omega) Row.nil_ hq hk;rw[List.nil_append]at hib;have hbl:=It.cz1 l;have hm0:((m:Int)==0)=false:=by simp;omega
 have HIB:=Lib.hid hib;clear hib hk;go_enter Tryz.func210,Tryz.ntmps210;go_wp2_with fail;refine HIB.out.mono ?_;rintro e w1 ⟨A1,M1,c1,rfl,ho1,hc1,hm1,hb1⟩;have hML:M1=(It.bytes l).length:=by
  have:=ho1.1;rw[vk]at this;omega
 have hM6:M1≤60000:=by omega
 have hM6i:((60000:Int) < (M1:Int))=False:=eq_false (by omega);have hfp:=kw2 none 0 0 [] 1 A1 M1 c1 (It.bytes l) w1 (by omega) (by omega) (by omega) Row.nil_ (by omega) (by omega) hM6 hc1 hm1 (Row.own ho1);rw[List.nil_append]at hfp;have HFP:=Lib.hid hfp;clear hfp ho1 HIB hML;go_wp2_with fail;refine HFP.out.mono ?_;rintro e w2 ⟨A2,M2,c2,rfl,ho2,hc2,hm2,hb2⟩;have hob:=own_base ho2 hb1.size;have hbz:=az hb1 hb2;have HF:=Lib.hid (And.intro hob (And.intro hc2 (And.intro hm2 hbz)));clear ho2 hob hbz HFP;go_wp2;go_ret2;exact⟨A2,M2,c2,rfl,HF.out⟩
abbrev LgAt (w:World) (g xd:Nat) (nm:List UInt8) (sz ct:Nat):Prop:=BoxO w 233 g [.pointer (some ⟨xd,0,none⟩),.string (str nm),.int .i64 (sz:Int),.int .i64 (ct:Int),.bool false]
theorem UpdM.drew {X:Dw} {S:Sd} {w w':World} (h:UpdM X w.drew w' S):UpdM X w w' S:=by
 obtain⟨X2,a,b,c,d⟩:=h;exact⟨X2,a,b,((Chg.refl X.foot w).drew).trans c (fun g hg=>.inl hg),d⟩
theorem LgAt.upd {X:Dw} {S:Sd} {w w':World} {g xd:Nat} {nm:List UInt8} {sz ct:Nat} (h:LgAt w g xd nm sz ct) (hu:UpdM X w w' S) (hg:g∉X.foot):LgAt w' g xd nm sz ct:=by
 obtain⟨X2,a,b,c,d⟩:=hu;exact h.chg c hg
theorem kj2 (l:List UInt8):(str l).data.toList=l:=by simp[str]
theorem uv2 (X:Dw) (S:Sd) (g:Nat) (nm:List UInt8) (sz ct:Nat) (w:World) (hnm:nm.length≤1000) (h:Dm w X S) (hg:LgAt w g X.d nm sz ct) (hgX:g∉X.foot):
  Calls Tryz.prog 138 #[.pointer (some ⟨g,0,none⟩)] w fun e w'=>e=.returned (.int .i64 ((S.sync nm).2:Int))∧UpdM X w w' (S.sync nm).1:=by
 have c0:=hg.cell 0;have c1:=hg.cell 1;have c4:=hg.cell 4;simp only[gE0,gE1]at c0 c1 c4;have hs:=(Acc.start (F:=[]) (h.below (w':=w.drew) (ak (Below.refl _ _)))).sync (str nm) (by rw[qx];unfold maxLen;omega);rw[kj2]at hs;have hs2:Calls Tryz.prog 29 #[.pointer (some ⟨X.d,0,none⟩),.string (str nm)] w.drew fun e w'=>e=.returned (.int .i64 ((S.sync nm).2:Int))∧UpdM X w w' (S.sync nm).1:=hs.mono fun e w' ⟨h1,X2,h2⟩=>⟨h1,UpdM.drew h2.updM⟩;generalize (S.sync nm).2=er at *;have HS:=Lib.hid hs2;have HG:=Lib.hid hg;clear hs hs2 hg h;go_enter Tryz.func138,Tryz.ntmps138;go_wp2_with fail;refine wp_region_held_drew (S:=fun w'=>LgAt w' g X.d nm sz ct) rfl HG.out.drew (fun hSw=>?_);refine wpT (i:=0) (v:=?vsy0) ?hsy0 hSw ?ksy0
 case hsy0=>(intro w hSw;(have c0:=hSw.cell 0;have c1:=hSw.cell 1;simp only[gE0,gE1]at c0 c1);go_simp;try (with_reducible rfl))
 go_simp;refine wpT (i:=1) (v:=?vsy1) ?hsy1 hSw ?ksy1
 case hsy1=>(intro w hSw;(have c0:=hSw.cell 0;have c1:=hSw.cell 1;simp only[gE0,gE1]at c0 c1);go_simp;try (with_reducible rfl))
 go_simp;refine wpT (i:=2) (v:=?vsy2) ?hsy2 hSw ?ksy2
 case hsy2=>(intro w hSw;(have c0:=hSw.cell 0;have c1:=hSw.cell 1;simp only[gE0,gE1]at c0 c1);go_simp;try (with_reducible rfl))
 go_simp;refine wpT (i:=3) (v:=?vsy3) ?hsy3 hSw ?ksy3
 case hsy3=>(intro w hSw;(have c0:=hSw.cell 0;have c1:=hSw.cell 1;simp only[gE0,gE1]at c0 c1);go_simp;try (with_reducible rfl))
 go_simp;refine wpT (i:=4) (v:=?vsy4) ?hsy4 hSw ?ksy4
 case hsy4=>(intro w hSw;(have c0:=hSw.cell 0;have c1:=hSw.cell 1;simp only[gE0,gE1]at c0 c1);go_simp;try (with_reducible rfl))
 go_simp;refine wpT (i:=5) (v:=?vsy5) ?hsy5 hSw ?ksy5
 case hsy5=>(intro w hSw;(have c0:=hSw.cell 0;have c1:=hSw.cell 1;simp only[gE0,gE1]at c0 c1);go_simp;try (with_reducible rfl))
 go_simp;refine wpT (i:=6) (v:=?vsy6) ?hsy6 hSw ?ksy6
 case hsy6=>(intro w hSw;(have c0:=hSw.cell 0;have c1:=hSw.cell 1;simp only[gE0,gE1]at c0 c1);go_simp;try (with_reducible rfl))
 go_simp;refine wpT (i:=7) (v:=?vsy7) ?hsy7 hSw ?ksy7
 case hsy7=>(intro w hSw;(have c0:=hSw.cell 0;have c1:=hSw.cell 1;simp only[gE0,gE1]at c0 c1);go_simp;try (with_reducible rfl))
 go_simp;refine wpAnyH_ready (rs:=[8]) (by kernel_rfl) (by simp) ?_;refine AllReadyH.cons rfl (fun K hK=>?_) AllReadyH.nil;go_simp
 with_reducible refine HS.out.mono ?_
 rintro e w3 ⟨rfl,hu⟩;go_simp;refine hK.out _ _ (HG.out.upd hu hgX) (fun hSn=>?_);clear hK K hSw;have hSw:=hSn;clear hSn;go_simp;refine wpT (i:=9) (v:=?vsy9) ?hsy9 hSw ?ksy9
 case hsy9=>(intro w hSw;(have c0:=hSw.cell 0;have c1:=hSw.cell 1;simp only[gE0,gE1]at c0 c1);go_simp;try (with_reducible rfl))
 go_simp;refine wpAnyH_done (by kernel_rfl) ?_ _;clear hSw;go_wp2;go_ret;exact⟨rfl,hu⟩
def rx4 (X:Dw) (w:World) (nm:List UInt8) (R:Sd×Nat) (e:Ending) (w':World):Prop:=∃X',X'.d=X.d∧Dm w' X' R.1∧Chg X.foot w w'∧(∀g∈X'.foot,g∈X.foot∨w.heap.size≤g)∧
 ((R.2≠0∧e=.returned (.tuple #[.pointer none,.int .i64 (R.2:Int)]))∨(R.2=0∧∃g,e=.returned (.tuple #[.pointer (some ⟨g,0,none⟩),.int .i64 0])∧LgAt w' g X.d nm 0 0∧w.heap.size≤g∧g∉X'.foot))
theorem dv4 (X:Dw) (S:Sd) (nm:List UInt8) (w:World) (hnm:nm.length≤1000) (hld:S.load≤1099511627776) (h:Dm w X S):
  Calls Tryz.prog 151 #[.pointer (some ⟨X.d,0,none⟩),.string (str nm)] w (rx4 X w nm (S.create nm)):=by
 have hs:=(Acc.start (F:=[]) h).create (str nm) (by rw[qx];unfold maxLen;omega) hld;rw[kj2]at hs;obtain⟨R,hR⟩:∃R,R=S.create nm:=⟨_,rfl⟩;rw[←hR]at hs ⊢;obtain⟨S1,er⟩:=R;simp only at hs;have HS:=Lib.hid hs;clear hs h hR;go_enter Tryz.func151,Tryz.ntmps151;go_wp2_with fail;refine HS.out.mono ?_;rintro e w1 ⟨rfl,X2,h2⟩;have H2:=Lib.hid h2;clear h2 HS
 by_cases he:er=0
 ·subst he
  go_wp2;go_ret2;have hc:=H2.out.c;have hlt:=H2.out.dm.dk.lt;have hsz:=hc.size;have hba:=(Below.refl w1.heap.size w1).alloc (Nat.le_refl _) (.cells #[.pointer (some ⟨X.d,0,none⟩),.string (str nm),.int .i64 0,.int .i64 0,.bool false] 233);refine⟨X2,H2.out.e,H2.out.dm.below hba,by simpa using hc.alloc (.cells #[.pointer (some ⟨X.d,0,none⟩),.string (str nm),.int .i64 0,.int .i64 0,.bool false] 233),H2.out.f,.inr ⟨rfl,w1.heap.size,rfl,BoxO.new _ _ _,hsz,fun hm=>?_⟩⟩;have:=hlt _ hm;omega
 ·have he3:((er:Int)==0)=false:=by simp;omega
  go_wp2;go_ret2;exact⟨X2,H2.out.e,H2.out.dm,by simpa using H2.out.c,H2.out.f,.inl ⟨he,rfl⟩⟩
def ij3 (X:Dw) (g:Nat) (w:World) (nm:List UInt8) (sz ct len:Nat) (R:Sd×Nat) (e:Ending) (w':World):Prop:=e=.returned (.int .i64 (R.2:Int))∧∃X',X'.d=X.d∧Dm w' X' R.1∧Chg (g::X.foot) w w'∧(∀g∈X'.foot,g∈X.foot∨w.heap.size≤g)∧
 (if R.2=0 then LgAt w' g X.d nm (sz+len) (ct+1) else LgAt w' g X.d nm sz ct)
theorem mq4 (X:Dw) (S:Sd) (g:Nat) (nm:List UInt8) (sz ct:Nat) (L:Option Addr) (m d:Nat) (l:List It) (w:World) (hnm:nm.length≤1000) (h:Dm w X S) (hg:LgAt w g X.d nm sz ct) (hgX:g∉X.foot) (hgN:NG≤g)
  (hsz:sz≤1000000000000) (hct:ct≤1000000000) (h0:0 < m) (hm:m≤1000) (hq:Row w.heap.size w L m 5 (itc l)) (hk:∀x∈l,x.ok=true∧x.fit):
  Calls Tryz.prog 131 #[.pointer (some ⟨g,0,none⟩),.slice L m d] w (ij3 X g w nm sz ct (Lg.batch l).length (S.append nm (Lg.batch l))):=by
 have c4:=hg.cell 4;simp only[gE0,gE1]at c4;have hb:=sx3 L m d l w h0 hm hq hk;have hbl:=Lg.py2 l;have hmn:=hq.bj1;have hgl:=hg.lt;have HB:=Lib.hid hb;have HD:=Lib.hid h;have HG:=Lib.hid hg;obtain⟨R,hR⟩:∃R,R=S.append nm (Lg.batch l):=⟨_,rfl⟩;obtain⟨len,hlen⟩:∃len,len=(Lg.batch l).length:=⟨_,rfl⟩;rw[←hR,←hlen];obtain⟨S1,er⟩:=R;have HR:=Lib.hid hR;have HLEN:=Lib.hid hlen;rw[←hlen]at hbl;clear hb h hg hk hq hR hlen;go_enter Tryz.func131,Tryz.ntmps131;go_wp2_with fail;refine HB.out.mono ?_;rintro e w1 ⟨A1,M1,c1,rfl,ho1,hc1,hm1,hb1⟩;have hML:M1=len:=by
  have:=ho1.1;rw[vk,←HLEN.out]at this;omega
 obtain⟨A2,c2,hv,hqc,hqm,hlow⟩:=ay ho1;injection hv with e1 e2 e3;subst e1 e3;have hd1:=HD.out.below hb1;have hg1:=HG.out.below hb1;have hA:∀a,A1=some a→a.block∉X.foot:=fun a ha hm=>by
  have h2:=(hlow a ha).1;have h3:=HD.out.dk.lt _ hm;omega
 have hap:=(Acc.start (F:=[]) (hd1.below (w':=w1.drew) (ak (Below.refl _ _)))).append (str nm) (by rw[qx];unfold maxLen;omega) A1 M1 c1 (Lg.batch l) (by omega) (Row.own ho1) hA;rw[kj2]at hap;rw[←HR.out]at hap;have hap2:Calls Tryz.prog 28 #[.pointer (some ⟨X.d,0,none⟩),.string (str nm),.slice A1 M1 c1] w1.drew fun e w'=>e=.returned (.int .i64 (er:Int))∧UpdM X w1 w' S1:=hap.mono fun e w' ⟨h1,X2,h2⟩=>⟨h1,UpdM.drew h2.updM⟩;subst hML;have HG1:=Lib.hid hg1;have HAP:=Lib.hid hap2;have HB1:=Lib.hid hb1;clear hap hap2 hg1 hd1 ho1 hb1 hA hlow hqc hqm HB;go_wp2_with fail;refine wp_region_held_drew (S:=fun w'=>LgAt w' g X.d nm sz ct) rfl HG1.out.drew (fun hSw=>?_);refine wpT (i:=0) (v:=?vpu0) ?hpu0 hSw ?kpu0
 case hpu0=>(intro w hSw;(have c0:=hSw.cell 0;have c1:=hSw.cell 1;simp only[gE0,gE1]at c0 c1);go_simp;try (with_reducible rfl))
 go_simp;refine wpT (i:=1) (v:=?vpu1) ?hpu1 hSw ?kpu1
 case hpu1=>(intro w hSw;(have c0:=hSw.cell 0;have c1:=hSw.cell 1;simp only[gE0,gE1]at c0 c1);go_simp;try (with_reducible rfl))
 go_simp;refine wpT (i:=2) (v:=?vpu2) ?hpu2 hSw ?kpu2
 case hpu2=>(intro w hSw;(have c0:=hSw.cell 0;have c1:=hSw.cell 1;simp only[gE0,gE1]at c0 c1);go_simp;try (with_reducible rfl))
 go_simp;refine wpT (i:=3) (v:=?vpu3) ?hpu3 hSw ?kpu3
 case hpu3=>(intro w hSw;(have c0:=hSw.cell 0;have c1:=hSw.cell 1;simp only[gE0,gE1]at c0 c1);go_simp;try (with_reducible rfl))
 go_simp;refine wpT (i:=4) (v:=?vpu4) ?hpu4 hSw ?kpu4
 case hpu4=>(intro w hSw;(have c0:=hSw.cell 0;have c1:=hSw.cell 1;simp only[gE0,gE1]at c0 c1);go_simp;try (with_reducible rfl))
 go_simp;refine wpT (i:=5) (v:=?vpu5) ?hpu5 hSw ?kpu5
 case hpu5=>(intro w hSw;(have c0:=hSw.cell 0;have c1:=hSw.cell 1;simp only[gE0,gE1]at c0 c1);go_simp;try (with_reducible rfl))
 go_simp;refine wpT (i:=6) (v:=?vpu6) ?hpu6 hSw ?kpu6
 case hpu6=>(intro w hSw;(have c0:=hSw.cell 0;have c1:=hSw.cell 1;simp only[gE0,gE1]at c0 c1);go_simp;try (with_reducible rfl))
 go_simp;refine wpT (i:=7) (v:=?vpu7) ?hpu7 hSw ?kpu7
 case hpu7=>(intro w hSw;(have c0:=hSw.cell 0;have c1:=hSw.cell 1;simp only[gE0,gE1]at c0 c1);go_simp;try (with_reducible rfl))
 go_simp;refine wpT (i:=8) (v:=?vpu8) ?hpu8 hSw ?kpu8
 case hpu8=>(intro w hSw;(have c0:=hSw.cell 0;have c1:=hSw.cell 1;simp only[gE0,gE1]at c0 c1);go_simp;try (with_reducible rfl))
 go_simp;refine wpAnyH_ready (rs:=[9]) (by kernel_rfl) (by simp) ?_;refine AllReadyH.cons rfl (fun K hK=>?_) AllReadyH.nil;go_simp
 with_reducible refine HAP.out.mono ?_
 rintro e w3 ⟨rfl,hu⟩;go_simp;refine hK.out _ _ (LgAt.upd HG1.out hu hgX) (fun hSn=>?_);clear hK K hSw;have hSw:=hSn;clear hSn;go_simp;refine wpT (i:=10) (v:=?vpu10) ?hpu10 hSw ?kpu10
 case hpu10=>(intro w hSw;(have c0:=hSw.cell 0;have c1:=hSw.cell 1;simp only[gE0,gE1]at c0 c1);go_simp;try (with_reducible rfl))
 go_simp;refine wpAnyH_done (by kernel_rfl) ?_ _;have hg3:=hSw;clear hSw HAP;have hcs:∃X',X'.d=X.d∧Dm w3 X' S1∧Chg X.foot w w3∧∀g∈X'.foot,g∈X.foot∨w.heap.size≤g:=by
  obtain⟨X2,q1,q2,q3,q4⟩:=hu;refine⟨X2,q1,q2,(Chg.of_below HB1.out X.foot).trans q3 (fun g hg=>.inl hg),fun g hg=>?_⟩
  rcases q4 g hg with h1|h1
  ·exact .inl h1
  ·exact .inr (Nat.le_trans HB1.out.size h1)
 have HC:=Lib.hid hcs;clear hcs hu
 by_cases he:er=0
 ·subst he
  have d2:=hg3.cell 2;have d3:=hg3.cell 3;have f2:=hg3.free 2;have f3:=hg3.free 3;simp only[gE0,gE1]at d2 d3;have hw2:IntKind.i64.wrap ((sz:Int)+(M1:Int))=((sz+M1:Nat):Int):=by rw[IntWalk.i64_in _ (by omega)];omega
  have hg4:=hg3.store 2 (.int .i64 ((sz+M1:Nat):Int));have d34:=hg4.cell 3;simp only[List.set_cons_zero,List.set_cons_succ,gE0,gE1]at d34 hg4;have had:=wv3 g 3 (ct:Int) (w3.setCell ⟨g,2,none⟩ (.int .i64 ((sz+M1:Nat):Int))) (by omega) (by omega) d34 (hg4.free 3);have hg5:=hg4.store 3 (.int .i64 ((ct:Int)+1));simp only[List.set_cons_zero,List.set_cons_succ]at hg5;have hcg:Chg [g] w3 ((w3.setCell ⟨g,2,none⟩ (.int .i64 ((sz+M1:Nat):Int))).setCell ⟨g,3,none⟩ (.int .i64 ((ct:Int)+1))):=((Chg.refl _ w3).setCell _ (.inl (by simp))).setCell _ (.inl (by simp));have hfin:ij3 X g w nm sz ct M1 (S1,0) (.returned (.int .i64 0)) ((w3.setCell ⟨g,2,none⟩ (.int .i64 ((sz+M1:Nat):Int))).setCell ⟨g,3,none⟩ (.int .i64 ((ct:Int)+1))):=by
   obtain⟨X2,q1,q2,q3,q4⟩:=HC.out;have hgX2:g∉X2.foot:=fun hm=>by
    rcases q4 g hm with h1|h1
    ·exact hgX h1
    ·omega
   refine⟨rfl,X2,q1,q2.chg hcg (fun x hx=>by rw[List.mem_singleton.1 hx];exact⟨hgX2,hgN⟩),(q3.mono (fun x hx=>.inl (List.mem_cons_of_mem _ hx))).trans hcg (fun x hx=>.inl (by rw[List.mem_singleton.1 hx];exact List.mem_cons_self)),q4,?_⟩;rw[if_pos rfl];exact hg5
  have HAD:=Lib.hid had;have HFIN:=Lib.hid hfin;clear had hfin hcg hg5 hg4 hg3 d34 HC;go_wp2_with fail;refine HAD.out.mono ?_;rintro e w4 ⟨rfl,rfl⟩;go_wp2;go_ret;exact HFIN.out
 ·have he3:((er:Int)==0)=false:=by simp;omega
  have hfin:ij3 X g w nm sz ct M1 (S1,er) (.returned (.int .i64 (er:Int))) w3:=by
   obtain⟨X2,q1,q2,q3,q4⟩:=HC.out;refine⟨rfl,X2,q1,q2,q3.mono (fun x hx=>.inl (List.mem_cons_of_mem _ hx)),q4,?_⟩;rw[if_neg he];exact hg3
  have HFIN:=Lib.hid hfin;clear hfin hg3 HC;go_wp2;go_ret;exact HFIN.out
end
end Go.Proofs.YthjdpplgfdihoaaGreatDoor
namespace Go.Proofs.YthjdpplgfdihoaaGreatDoor
open Go Go.RowKit Go.Shelf
end Go.Proofs.YthjdpplgfdihoaaGreatDoor
namespace Go.Proofs
open Go Go.RowKit Go.Shelf
def Tryz.growItem_ren:Go.Shelf.Ren:=⟨fun|4=>176|n=>n,fun|22=>31|25=>36|3=>3|4=>4|9=>9|20=>20|0=>0|n=>n,fun|n=>n⟩
theorem Tryz.growItem:Go.Proofs.Lays8.n4 Tryz.prog Tryz.growItem_ren:={
 mixed:=by kernel_rfl
 f4:=⟨Tryz.f176.name,by decide,Tryz.func176.trans (congrArg some (by kernel_rfl))⟩
 t0:=Tryz.underlying0
 a0:=Tryz.isAgg0
 z0:=Tryz.sizeOf0
 v0:=Tryz.zeroValue0
 t3:=Tryz.underlying3
 a3:=Tryz.isAgg3
 z3:=Tryz.sizeOf3
 v3:=Tryz.zeroValue3
 t4:=Tryz.underlying4
 a4:=Tryz.isAgg4
 z4:=Tryz.sizeOf4
 v4:=Tryz.zeroValue4
 t9:=Tryz.underlying9
 a9:=Tryz.isAgg9
 z9:=Tryz.sizeOf9
 v9:=Tryz.zeroValue9
 t20:=Tryz.underlying20
 a20:=Tryz.isAgg20
 z20:=Tryz.sizeOf20
 v20:=Tryz.zeroValue20
 t22:=Tryz.underlying31
 a22:=Tryz.isAgg31
 z22:=Tryz.sizeOf31
 v22:=Tryz.zeroValue31 }
end Go.Proofs
namespace Go.Proofs.YthjdpplgfdihoaaGreatDoor
open Go Go.RowKit Go.Shelf
def qx2 (B:Nat) (w:World) (P:Option Addr) (n:Nat) (ls:List (List It)):Prop:=
 ∃vs,Row B w P n 1 vs∧ls.length=n∧∀i (h:i < ls.length),∃A k c,vs[i]?=some (.slice A k c)∧k≤c∧c≤maxLen∧Row B w A k 5 (itc ls[i])
theorem qx2.at_ {B:Nat} {w:World} {P:Option Addr} {n:Nat} {ls:List (List It)} (h:qx2 B w P n ls) {i:Nat} (hi:i < n):
  ∃a A k c,∃hl:i < ls.length,P=some a∧a.block < B∧w.cell? (a.add i)=some (.slice A k c)∧k≤c∧c≤maxLen∧Row B w A k 5 (itc ls[i]):=by
 obtain⟨vs,hr,hl,hf⟩:=h;obtain⟨a,v,e,b,hv,hc⟩:=hr.at1 hi;obtain⟨A,k,c,h1,h2,h3,h4⟩:=hf i (by omega);rw[h1]at hv;injection hv with hv;exact⟨a,A,k,c,by omega,e,b,by rw[hc,←hv],h2,h3,h4⟩
theorem qx2.below {B:Nat} {w w':World} {P:Option Addr} {n:Nat} {ls:List (List It)} (h:qx2 B w P n ls) (hb:Below B w w'):qx2 B w' P n ls:=by
 obtain⟨vs,hr,hl,hf⟩:=h;exact⟨vs,hr.below hb,hl,fun i hi=>let ⟨A,k,c,h1,h2,h3,h4⟩:=hf i hi;⟨A,k,c,h1,h2,h3,h4.below hb⟩⟩
theorem qw1 {ls:List (List It)} {k:Nat} (hl:k < ls.length):(ls.take (k+1)).flatten=(ls.take k).flatten++ls[k]:=by
 have h:=(List.take_append_getElem hl).symm;rw[h,List.flatten_append];simp
theorem jk2 {ls:List (List It)} (k:Nat):(ls.take k).flatten.length≤ls.flatten.length:=by
 conv=>rhs;rw[←List.take_append_drop k ls,List.flatten_append,List.length_append]
 omega
theorem aq4 (n:Nat) (hn:n≤1000000) (w:World):
  Calls Tryz.prog 176 #[.slice none 0 0,.int .i64 (n:Int)] w fun e w'=>∃A c,e=.returned (.slice A 0 c)∧w'.ownsRow w.heap.size 36 5 (.slice A 0 c) 0 []∧Below w.heap.size w w':=by
 obtain⟨i0,hi0,hz0,hz1,hz2⟩:=info_parts az1
 rcases Nat.eq_zero_or_pos n with h0|h0
 ·subst h0
  have h:=Any8.slices_Grow_room Tryz.growItem none 0 0 0 w (Nat.le_refl _) (by omega) (by omega) (by omega);refine Calls.mono h ?_;rintro e w' ⟨rfl,rfl⟩;exact⟨none,0,rfl,World.ownsRow_nil _ _ _ _,Below.refl _ _⟩
 ·have h:=Any8.slices_Grow_grow Tryz.growItem i0 (.agg #[.int .i64 0,.int .i64 0,.int .u64 0,.int .u64 0,.int .i64 0]) hi0 hz0 (by omega) none 0 0 n [] w (Nat.le_refl _) (by omega) (by rw[hz2];omega) (by omega) (by simp) (fun _=>rfl) (fun a h=>by cases h)
  refine Calls.mono h ?_;rintro e w' ⟨rfl,rfl⟩;have hg:=grownCap_ge w (0+n) 0 36;have hg2:=grownCap_le_maxLen w (0+n) 0 36 (by unfold maxLen;omega);refine⟨_,_,rfl,⟨by simp,.inr ⟨w.heap.size,_,_,rfl,Nat.le_refl _,heap_alloc_new w.drew _,Nat.zero_le _,hg2,?_,by simp⟩⟩,((Below.refl w.heap.size w).drew).alloc (Nat.le_refl _) _⟩;change _=grownCap w (0+n) 0 36 *5;have hc:(Value.agg #[.int .i64 0,.int .i64 0,.int .u64 0,.int .u64 0,.int .i64 0]).cells.size=5:=rfl;simp only[Array.size_append,Builtin.zeroCells,Array.size_map,Array.size_range,hc];change 0+(0+n - 0)*5+(grownCap w (0+n) 0 36 - (0+n))*5=_;omega
theorem bz3 (P:Option Addr) (n c:Nat) (ls:List (List It)) (w:World) (hn:n≤1000000) (hbig:ls.flatten.length≤1000000) (hr:qx2 w.heap.size w P n ls):
  Calls Tryz.prog 91 #[.slice P n c] w fun e w'=>∃A' c',e=.returned (.slice A' ls.flatten.length c')∧
   w'.ownsRow w.heap.size 36 5 (.slice A' ls.flatten.length c') ls.flatten.length (itc ls.flatten)∧ls.flatten.length≤c'∧c'≤maxLen∧Below w.heap.size w w':=by
 obtain⟨i0,hi0,hz0,hz1,hz2⟩:=info_parts az1;have hlen:ls.length=n:=by obtain⟨_,_,h,_⟩:=hr;exact h
 obtain⟨F,hF⟩:∃F,F=ls.flatten.length:=⟨_,rfl⟩;have HF:=Lib.hid hF;have HB:=Lib.hid hbig;rw[←hF]at hbig ⊢;clear hF;go_enter Tryz.func91,Tryz.ntmps91;go_wp2
 go_loop [3,11] (fun x i=>∃k:Nat,k≤n∧i=.int .i64 (k:Int)∧x=.int .i64 (((ls.take k).flatten.length:Nat):Int)) (fun _ i=>n - (intOf i).toNat)
 case atStart=>exact⟨0,Nat.zero_le _,rfl,rfl⟩
 case round=>
  obtain⟨k,hk,rfl,rfl⟩:=hrel
  by_cases hlt:k < n
  ·obtain⟨a,A,k',c',hl,rfl,_,hc,hkc,hcm,hr2⟩:=hr.at_ hlt
   have ht:=qw1 hl;have hb1:=jk2 (ls:=ls) (k+1);have e1:(ls.take (k+1)).flatten.length=(ls.take k).flatten.length+k':=by rw[ht,List.length_append,hr2.bj1]
   have hb2:(ls.take k).flatten.length+k'≤1000000:=by
    have h:ls.flatten.length≤1000000:=HB;omega
   have E1:=Lib.hid e1;clear ht hb1 e1;generalize (ls.take k).flatten.length=L at *;have hge:((L:Int)+(k':Int) < 0)=False:=by simp;omega
   go_wp2
   go_round
   case rel=>exact⟨k+1,by omega,by go_num,by have e1:(ls.take (k+1)).flatten.length=L+k':=E1;rw[e1];go_num⟩
   case measure=>simp[intOf];omega
  ·obtain rfl:k=n:=by omega
   have e1:(ls.take k).flatten.length=F:=by
    have h:F=ls.flatten.length:=HF;rw[List.take_of_length_le (by omega),h]
   rw[e1];clear e1;go_wp2_with fail;refine(aq4 F hbig w).mono ?_;rintro e w1 ⟨A1,c1,rfl,ho1,hb1⟩;go_wp2
   go_loopw [6,27] (fun o i wr=>∃(j:Nat) (A':Option Addr) (M c':Nat),j≤k∧o=.slice A' M c'∧i=.int .i64 (j:Int)∧wr.ownsRow w.heap.size 36 5 (.slice A' M c') M (itc (ls.take j).flatten)∧Below w.heap.size w wr) (fun _ i _=>k - (intOf i).toNat)
   case atStart=>exact⟨0,A1,0,c1,Nat.zero_le _,rfl,rfl,by simpa [itc] using ho1,hb1⟩
   case round=>
    obtain⟨j,A',M,c',hj,rfl,rfl,hown,hb⟩:=hrel;have hML:M=(ls.take j).flatten.length:=by
     have h1:=hown.1;rw[ik]at h1;omega
    by_cases hjk:j < k
    ·obtain⟨a,A,k',c2,hl,rfl,hab,hc,hkc,hcm,hr2⟩:=(hr.below hb).at_ hjk
     have ht:=qw1 hl;have hb1:=jk2 (ls:=ls) (j+1);have hb2:M+k'≤1000000:=by
      have h:ls.flatten.length≤1000000:=HB;have e1:(ls.take (j+1)).flatten.length=(ls.take j).flatten.length+k':=by rw[ht,List.length_append,hr2.bj1]
      omega
     have hnew:itc (ls.take j).flatten++itc ls[j]=itc (ls.take (j+1)).flatten:=by rw[ht,bz1]
     have h1c:=fq1 ls[j];generalize itc ls[j]=X at *;generalize hY:itc (ls.take (j+1)).flatten=Y at *;generalize itc (ls.take j).flatten=Z at *;have HN:=Lib.hid hnew;have HY:=Lib.hid hY;clear hY hML ht hb1 hnew;go_wp2_with (at_builtin;refine jq ?_);refine gy (lq rfl (.tmp 31) (.tmp 32) _ rfl w.heap.size 36 i0 _ 5 40 Tryz.underlying31 hi0 hz0 hz1 hz2 rfl (by omega) w hb hb.size _ M Z rfl hown w.heap.size A k' c2 X rfl hr2 h1c (M+k') Y rfl HN (by unfold maxLen;omega) (by omega) ?_);intro A3 c3 w3 hown3 hb3 _ hc3 hm3;go_wp2;go_roundw
     case rel=>exact⟨j+1,A3,M+k',c3,by omega,rfl,by go_num,by have hY:itc (ls.take (j+1)).flatten=Y:=HY;rw[hY];exact hown3,hb3⟩
     case measure=>simp[intOf];omega
    ·obtain rfl:j=k:=by omega
     have e1:ls.take j=ls:=List.take_of_length_le (by omega);rw[e1]at hown hML;have h:F=ls.flatten.length:=HF;have hMF:M=F:=by omega
     subst hMF;obtain⟨A4,c4,e4,h5,h6,_⟩:=ay hown;injection e4 with e5 e6 e7;subst e5;subst e7;clear hML h e1;go_wp2;go_ret;exact⟨A',c',rfl,hown,h5,h6,hb⟩
end Go.Proofs.YthjdpplgfdihoaaGreatDoor
namespace Go.Proofs.YthjdpplgfdihoaaGreatDoor
section
open Go Go.RowKit Go.Lib Go.Shelf
attribute [local go_sem] Oper.semAt_some
abbrev Ck (m len:Nat):Type:={ x:Nat // x *m < len }
def Ck.len {m len:Nat} (x:Ck m len):Nat:=min m (len - x.1 *m)
def Ck.val (p:Addr) {m len:Nat} (x:Ck m len):Value:=.slice (some (p.add (x.1 *m *5))) x.len x.len
def Ck.of (l:List It) {m len:Nat} (x:Ck m len):List It:=(l.drop (x.1 *m)).take m
theorem oj4 {m len k f:Nat} {L:List It} {pre:List (Ck m len)} (hm:1≤m) (hL:L.length=len) (hk:k *m < len) (h1:(L.drop (k *m)).length≤f) (h2:pre.map (Ck.of L)++Tb.cut m f (L.drop (k *m))=Tb.cut m len L):
  ∃f',(L.drop ((k+1)*m)).length≤f'∧(pre++[(⟨k,hk⟩:Ck m len)]).map (Ck.of L)++Tb.cut m f' (L.drop ((k+1)*m))=Tb.cut m len L:=by
 have hkm:(k+1)*m=k *m+m:=Nat.succ_mul k m;rw[List.length_drop]at h1;obtain⟨f',rfl⟩:∃f',f=f'+1:=⟨f - 1,by omega⟩;refine⟨f',by rw[List.length_drop,hkm];omega,?_⟩;have hne:L.drop (k *m)≠[]:=fun e=>by
  have:=congrArg List.length e;rw[List.length_drop]at this;simp at this;omega
 rw[←h2,Tb.cut,if_neg hne,List.drop_drop,hkm,List.map_append,List.append_assoc];rfl
theorem tj3 (F:Fence) (n:Nat) (h7:F.fn 205) (hro:F.round=none) (hn:1≤n) (l Bs Bn:Nat) (Kp:World→World→Prop) (hKc:∀W W',Kp W W'→W'.cell? ⟨Bs,0,none⟩=W.cell? ⟨Bs,0,none⟩∧W'.cell? ⟨Bn,0,none⟩=W.cell? ⟨Bn,0,none⟩) (p:Addr) (len cap m:Nat) (L:List It) (hL:L.length=len) (hm:1≤m) (hm2:m≤1000) (hlen:len≤100000) (hcap:len≤cap) (J Jx:List (Ck m len)→World→Prop)
  (hJd:∀pre W,J pre W→J pre W.drew) (hY:∀pre x W,J pre W→pre.length *m < len→YieldAt F (n - 1) Tryz.prog l #[Ck.val p x] W fun e W'=>
   (e=.returned (.bool true)∧J (pre++[x]) W'∧Kp W W')∨(e=.returned (.bool false)∧Jx (pre++[x]) W'))
  (W:World) (hBs:W.cell? ⟨Bs,0,none⟩=some (.slice (some p) len cap)) (hBn:W.cell? ⟨Bn,0,none⟩=some (.int .i64 (m:Int))) (h0:J [] W):
  CallsIn F n Tryz.prog 205 #[.func (.yield l) #[] #[],.pointer (some ⟨Bs,0,none⟩),.pointer (some ⟨Bn,0,none⟩)] W fun e W'=>(∃v,e=.returned v)∧
   ((∃ys,ys.map (Ck.of L)=Tb.cut m len L∧J ys W')∨(∃pre,Jx pre W')):=by
 refine callsIn_of_wp Tryz.func205 rfl h7 ?_ hro;simp only[Tryz.ntmps205,List.size_toArray,List.length_cons,List.length_nil,Nat.reduceAdd,Nat.reduceSub,Array.replicate_succ,Array.replicate_zero,List.push_toArray,List.append_toArray,List.nil_append,List.cons_append]
 gi_wp2
 gi_loopw [4] (fun i wr=>∃(k f:Nat) (pre:List (Ck m len)),i=.int .i64 ((k *m:Nat):Int)∧k *m≤len+m∧Hid (pre.length=k∧(L.drop (k *m)).length≤f∧pre.map (Ck.of L)++Tb.cut m f (L.drop (k *m))=Tb.cut m len L)∧J pre wr∧wr.cell? ⟨Bs,0,none⟩=some (.slice (some p) len cap)∧wr.cell? ⟨Bn,0,none⟩=some (.int .i64 (m:Int)))
  (fun i _=>len - (intOf i).toNat)
 case atStart=>exact⟨0,len,[],by simp,by simp,Lib.hid ⟨rfl,by simp[hL],by simp⟩,h0,hBs,hBn⟩
 case round=>
  obtain⟨k,f,pre,rfl,hkb,HK,hJs,hs1,hs2⟩:=hrel;obtain⟨q,hq⟩:∃q,q=k *m:=⟨_,rfl⟩;rw[←hq]at HK hkb ⊢
  by_cases hlt:q < len
  ·have hlti:(q:Int) < (len:Int):=by omega
   have hkl:k *m < len:=by rw[←hq];exact hlt
   obtain⟨e,he⟩:∃e,e=min m (len - q):=⟨_,rfl⟩;have he0:0 < e:=by omega
   have he0i:(0:Int) < (e:Int):=by omega
   have hel:q+e≤len:=by omega
   have heli:(q:Int)+(e:Int)≤(len:Int):=by omega
   have hqe:(q:Int)≤(q:Int)+(e:Int):=by omega
   have hle:(q:Int)+(e:Int)≤(cap:Int):=by omega
   have hwe:IntKind.i64.wrap ((q:Int)+(e:Int))=((q+e:Nat):Int):=by rw[IntWalk.i64_in _ (by omega)];omega
   have hmin:min (m:Int) ((len - q:Nat):Int)=(e:Int):=by omega
   obtain⟨fn,tmps,assign,body,hy,hR⟩:=hY pre ⟨k,hkl⟩ wr.drew (hJd _ _ hJs) (by rw[HK.out.1];exact hkl);have hv:Ck.val p (⟨k,hkl⟩:Ck m len)=.slice (some (p.add (q *5))) e e:=by
    unfold Ck.val Ck.len;simp only;rw[←hq,←he]
   rw[hv]at hy;have hcne:(cap=q)=False:=eq_false (by omega);have hcne2:(e=0)=False:=eq_false (by omega);have HST:=Lib.hid (show ∃f',(L.drop ((k+1)*m)).length≤f'∧(pre++[(⟨k,hkl⟩:Ck m len)]).map (Ck.of L)++Tb.cut m f' (L.drop ((k+1)*m))=Tb.cut m len L from oj4 hm hL hkl (by rw[←hq];exact HK.out.2.1) (by rw[←hq];exact HK.out.2.2));have HPL:=Lib.hid HK.out.1;have hkm:(k+1)*m=q+m:=by rw[hq];exact Nat.succ_mul k m
   have hwqm:IntKind.i64.wrap ((q:Int)+(m:Int))=((q+m:Nat):Int):=by rw[IntWalk.i64_in _ (by omega)];omega
   have HKM:=Lib.hid hkm;have HR:=Lib.hid hR;have HE:=Lib.hid (And.intro he hq);clear hR hv he hq hY hkm HK
   gi_wp2
   gi_region
   all_goals gi_wp2
   all_goals
    refine HR.out.mono ?_;rintro e' W3 (⟨rfl,hJ3,hk3⟩|⟨rfl,hJx3⟩)
    ·have hs4:W3.cell? ⟨Bs,0,none⟩=some (.slice (some p) len cap):=(hKc _ _ hk3).1.trans hs1
     have hs3:W3.cell? ⟨Bn,0,none⟩=some (.int .i64 (m:Int)):=(hKc _ _ hk3).2.trans hs2;clear hk3
     gi_wp2
     go_roundw
     case rel=>
      obtain⟨f',z1,z2⟩:=HST.out;exact⟨k+1,f',pre++[⟨k,hkl⟩],by rw[HKM.out];go_num,by rw[HKM.out];omega,Lib.hid ⟨by rw[List.length_append,HPL.out];rfl,z1,z2⟩,hJ3,hs4,hs3⟩
     case measure=>simp[intOf];omega
    ·gi_wp2
     refine bodyPost_ret (results_none rfl _ _ _) rfl ?_;exact⟨⟨_,rfl⟩,.inr ⟨_,hJx3⟩⟩
  ·have hlti:((q:Int) < (len:Int))=False:=eq_false (by omega)
   have hfin:pre.map (Ck.of L)=Tb.cut m len L:=by
    have h1:=HK.out.2.2;rw[List.drop_eq_nil_of_le (by omega)]at h1;rw[←h1]
    cases f<;>simp[Tb.cut]
   have HFIN:=Lib.hid hfin;clear hfin HK hq
   gi_wp2
   go_end0
   exact⟨⟨_,rfl⟩,.inl ⟨_,HFIN.out,hJs⟩⟩
theorem pq4 (F:Fence) (n:Nat) (h5:F.fn 121) (hro:F.round=none) (a:Option Addr) (len cap m:Nat) (hm:1≤m) (w:World):
  CallsIn F n Tryz.prog 121 #[.slice a len cap,.int .i64 (m:Int)] w fun e w'=>e=.returned (.func (.func 205) #[] #[.pointer (some ⟨w.heap.size,0,none⟩),.pointer (some ⟨w.heap.size+1,0,none⟩)])∧w'=(w.alloc (.cells #[.slice a len cap] 31)).alloc (.cells #[.int .i64 (m:Int)] 3):=by
 have h1:((m:Int) < 1)=False:=eq_false (by omega);refine callsIn_of_wp Tryz.func121 rfl h5 ?_ hro;simp only[Tryz.ntmps121,List.size_toArray,List.length_cons,List.length_nil,Nat.reduceAdd,Nat.reduceSub,Array.replicate_succ,Array.replicate_zero,List.push_toArray,List.append_toArray,List.nil_append,List.cons_append]
 gi_wp2
 go_ret;exact⟨rfl,rfl⟩
end
section
open Go Go.RowKit Go.Lib Go.Shelf
attribute [local go_sem] Oper.semAt_some
end
section
open Go Go.RowKit Go.Lib
end
section
open Go Go.RowKit Go.Lib
end
section
open Go Go.RowKit
structure ez1 (B:Nat) (w:World) (A:Option Addr) (n c:Nat) (fs:List (Int×Int)):Prop where
 row:Row w.heap.size w A n 2 (dw fs)
 nc:n≤c
 cm:c≤maxLen
 low:∀a,A=some a→B≤a.block
def gw3 (w:World) (o:Option Vw) (x:Ending) (w':World):Prop:=
 Below w.heap.size w w'∧match o with
 |none=>x=.returned (.tuple #[Vw.none_.val none 0 0,.bool false])
 |some u=>∃A N c,x=.returned (.tuple #[u.val A N c,.bool true])∧ez1 w.heap.size w' A N c u.files
def drop1 (n:Int) (fs:List (Int×Int)):Option (List (Int×Int)):=if fs.any (fun f=>f.2==n) then some (fs.eraseP fun f=>f.2==n) else none
theorem nj1:∀(a b:List Int) (fs:List (Int×Int)),dropAll (a++b) fs=(dropAll a fs).bind (dropAll b)
 |[],b,fs=>rfl
 |n::r,b,fs=>by
  simp only[List.cons_append,dropAll];split
  ·exact nj1 r b _
  ·rfl
theorem nz2 {ds:List Int} {k:Nat} (h:k < ds.length) (fs:List (Int×Int)):dropAll (ds.take (k+1)) fs=(dropAll (ds.take k) fs).bind (drop1 ds[k]):=by
 rw[List.take_succ_eq_append_getElem h,nj1]
 congr 1
theorem pw2 {ds:List Int} {k:Nat} {fs:List (Int×Int)} (h:dropAll (ds.take k) fs=none):dropAll ds fs=none:=by
 rw[←List.take_append_drop k ds,nj1,h];rfl
theorem rx3 {P:Int×Int→Bool} {fs:List (Int×Int)} {i:Nat} (hi:i < fs.length) (h:fs.findIdx P=i):fs.eraseP P=fs.eraseIdx i:=by
 rw[List.eraseP_eq_eraseIdx];have:fs.findIdx? P=some i:=by
  rw[List.findIdx?_eq_some_iff_findIdx_eq];exact⟨hi,h⟩
 rw[this]
theorem kj4 {v:Vw} {e:Ed} (h:dropAll e.drop v.files=none):v.app e=none:=by unfold Vw.app;rw[h]
def Vw.mix (v:Vw) (e:Ed) (fs:List (Int×Int)):Vw:=⟨if e.log=0 then v.log else e.log,fs++e.add,orElse e.floor v.floor,orElse e.cert v.cert,orElse e.at_ v.at_,orElse e.lease v.lease⟩
theorem jk4 {v:Vw} {e:Ed} {fs:List (Int×Int)} (h:dropAll e.drop v.files=some fs):v.app e=if (v.mix e fs).ok=true then some (v.mix e fs) else none:=by unfold Vw.app;rw[h];rfl
theorem xj1 {base B:Nat} {w:World} {A:Option Addr} {n c:Nat} {fs:List (Int×Int)} (h:w.ownsRow base 170 2 (.slice A n c) n (dw fs)) (hB:B≤base):ez1 B w A n c fs:=by
 obtain⟨_,_,hsl,hnc,hcm,hbs⟩:=ay h;injection hsl with h1 h2 h3;subst h1 h3;exact⟨Row.own h,hnc,hcm,fun a ha=>Nat.le_trans hB (hbs a ha).1⟩
theorem ez1.below {B n c:Nat} {w w':World} {A:Option Addr} {fs:List (Int×Int)} (h:ez1 B w A n c fs) (hb:Below w.heap.size w w'):ez1 B w' A n c fs:=⟨(h.row.below hb).up hb.size,h.nc,h.cm,h.low⟩
theorem ez1.chg {B n c:Nat} {w w':World} {A:Option Addr} {fs:List (Int×Int)} {G:List Nat} (h:ez1 B w A n c fs) (k:Chg G w w') (hg:∀a,A=some a→a.block∉G):ez1 B w' A n c fs:=⟨(k.row h.row (Nat.le_refl _) hg).up k.size,h.nc,h.cm,h.low⟩
theorem ev4 (A:Option Addr) (n c:Nat) (w:World) (hn:n≤c) (_hc:c≤maxLen):Calls Tryz.prog 295 #[.slice A n c] w fun e w'=>e=.returned (.slice A n n)∧w=w':=by
 go_enter Tryz.func295,Tryz.ntmps295;go_wp2;go_ret;exact⟨rfl,rfl⟩
theorem ow2 (v:Vw) (A0:Option Addr) (n0 c0:Nat) (e:Ed) (D:Option Addr) (m d:Nat) (A2:Option Addr) (n2 c2:Nat) (w:World) (hn0:n0≤100000) (hm:m≤100000) (hn2:n2≤100000)
  (hrv:Row w.heap.size w A0 n0 2 (dw v.files)) (hrd:Row w.heap.size w D m 1 (uz e.drop)) (hra:Row w.heap.size w A2 n2 2 (dw e.add)):
  Calls Tryz.prog 231 #[v.val A0 n0 c0,e.val D m d A2 n2 c2] w (gw3 w (v.app e)):=by
 obtain⟨i0,hi0,hz0,hz1,hz2⟩:=info_parts kx1;have hap1:=fun h=>kj4 (v:=v) (e:=e) h;have hap2:=fun fs h=>jk4 (v:=v) (e:=e) (fs:=fs) h;generalize hAP:v.app e=AP at *;have HAP1:=Lib.hid hap1;have HAP2:=Lib.hid hap2;clear hap1 hap2 hAP;have hdt:=fun(k:Nat) (h:k < e.drop.length)=>nz2 h v.files;have hds:=fun(k:Nat) h=>pw2 (ds:=e.drop) (k:=k) (fs:=v.files) h;have hdl:=hrd.ilen;have hvl:=hrv.flen;have hal:=hra.flen;have HDT:=Lib.hid hdt;have HDS:=Lib.hid hds;clear hdt hds;unfold Vw.mix at HAP2;unfold Vw.val Ed.val;obtain⟨g,fs0,f,c,a,l⟩:=v;obtain⟨ds,ad,G,F,C,AA,L⟩:=e;simp only at hrv hrd hra HAP1 HAP2 hdl hvl hal HDT HDS ⊢;go_enter Tryz.func231,Tryz.ntmps231;go_wp2_with (at_builtin;refine jq ?_);have hbw:Below w.heap.size w ((((w.alloc (.cells #[.int .i64 g,.slice A0 n0 c0,.int .u64 (f:Int),.int .u64 (c:Int),.int .u64 (a:Int),.int .u64 (l:Int)] 86)).alloc (.cells #[.slice D m d,.slice A2 n2 c2,.int .i64 G,.int .u64 (F:Int),.int .u64 (C:Int),.int .u64 (AA:Int),.int .u64 (L:Int)] 194)).alloc (.cells #[.int .i64 0,.slice none 0 0,.int .u64 0,.int .u64 0,.int .u64 0,.int .u64 0] 86)).alloc (.cells #[.int .i64 g,.slice A0 n0 c0,.int .u64 (f:Int),.int .u64 (c:Int),.int .u64 (a:Int),.int .u64 (l:Int)] 86)):=((((Below.refl _ _).alloc (Nat.le_refl _) _).alloc (by simp) _).alloc (by simp;omega) _).alloc (by simp;omega) _;have hE:=(((BoxO.new (w.alloc (.cells #[.int .i64 g,.slice A0 n0 c0,.int .u64 (f:Int),.int .u64 (c:Int),.int .u64 (a:Int),.int .u64 (l:Int)] 86)) #[.slice D m d,.slice A2 n2 c2,.int .i64 G,.int .u64 (F:Int),.int .u64 (C:Int),.int .u64 (AA:Int),.int .u64 (L:Int)] 194).alloc (.cells #[.int .i64 0,.slice none 0 0,.int .u64 0,.int .u64 0,.int .u64 0,.int .u64 0] 86)).alloc (.cells #[.int .i64 g,.slice A0 n0 c0,.int .u64 (f:Int),.int .u64 (c:Int),.int .u64 (a:Int),.int .u64 (l:Int)] 86));have hR:=((BoxO.new ((w.alloc (.cells #[.int .i64 g,.slice A0 n0 c0,.int .u64 (f:Int),.int .u64 (c:Int),.int .u64 (a:Int),.int .u64 (l:Int)] 86)).alloc (.cells #[.slice D m d,.slice A2 n2 c2,.int .i64 G,.int .u64 (F:Int),.int .u64 (C:Int),.int .u64 (AA:Int),.int .u64 (L:Int)] 194)) #[.int .i64 0,.slice none 0 0,.int .u64 0,.int .u64 0,.int .u64 0,.int .u64 0] 86).alloc (.cells #[.int .i64 g,.slice A0 n0 c0,.int .u64 (f:Int),.int .u64 (c:Int),.int .u64 (a:Int),.int .u64 (l:Int)] 86));have hO:=BoxO.new (((w.alloc (.cells #[.int .i64 g,.slice A0 n0 c0,.int .u64 (f:Int),.int .u64 (c:Int),.int .u64 (a:Int),.int .u64 (l:Int)] 86)).alloc (.cells #[.slice D m d,.slice A2 n2 c2,.int .i64 G,.int .u64 (F:Int),.int .u64 (C:Int),.int .u64 (AA:Int),.int .u64 (L:Int)] 194)).alloc (.cells #[.int .i64 0,.slice none 0 0,.int .u64 0,.int .u64 0,.int .u64 0,.int .u64 0] 86)) #[.int .i64 g,.slice A0 n0 c0,.int .u64 (f:Int),.int .u64 (c:Int),.int .u64 (a:Int),.int .u64 (l:Int)] 86;simp only[World.size_alloc]at hE hR hO;have hsz:((((w.alloc (.cells #[.int .i64 g,.slice A0 n0 c0,.int .u64 (f:Int),.int .u64 (c:Int),.int .u64 (a:Int),.int .u64 (l:Int)] 86)).alloc (.cells #[.slice D m d,.slice A2 n2 c2,.int .i64 G,.int .u64 (F:Int),.int .u64 (C:Int),.int .u64 (AA:Int),.int .u64 (L:Int)] 194)).alloc (.cells #[.int .i64 0,.slice none 0 0,.int .u64 0,.int .u64 0,.int .u64 0,.int .u64 0] 86)).alloc (.cells #[.int .i64 g,.slice A0 n0 c0,.int .u64 (f:Int),.int .u64 (c:Int),.int .u64 (a:Int),.int .u64 (l:Int)] 86)).heap.size=w.heap.size+1+1+1+1:=by simp
 refine gy (uw rfl _ (.tmp 14) _ rfl (w.heap.size+1+1+1+1) 170 i0 _ 2 16 Tryz.underlying84 hi0 hz0 hz1 hz2 rfl (by omega) ((((w.alloc (.cells #[.int .i64 g,.slice A0 n0 c0,.int .u64 (f:Int),.int .u64 (c:Int),.int .u64 (a:Int),.int .u64 (l:Int)] 86)).alloc (.cells #[.slice D m d,.slice A2 n2 c2,.int .i64 G,.int .u64 (F:Int),.int .u64 (C:Int),.int .u64 (AA:Int),.int .u64 (L:Int)] 194)).alloc (.cells #[.int .i64 0,.slice none 0 0,.int .u64 0,.int .u64 0,.int .u64 0,.int .u64 0] 86)).alloc (.cells #[.int .i64 g,.slice A0 n0 c0,.int .u64 (f:Int),.int .u64 (c:Int),.int .u64 (a:Int),.int .u64 (l:Int)] 86)) (Below.refl _ _) (by rw[hsz];exact Nat.le_refl _) rfl w.heap.size A0 n0 c0 (dw fs0) rfl (hrv.below hbw) (fj1 _) (by unfold maxLen;omega) (by omega) ?_);intro A1 k1 w1 ho1 hb1 hg1 hk1 hm1;have hbl1:Below w.heap.size w w1:=hbw.trans (hb1.mono (by omega));have hE1:BoxO w1 _ _ _:=(hb1.block (w.heap.size+1) (by omega)).trans hE;have hR1:BoxO w1 _ _ _:=(hb1.block (w.heap.size+1+1) (by omega)).trans hR;have hO1:BoxO w1 _ _ _:=(hb1.block (w.heap.size+1+1+1) (by omega)).trans hO;clear hbw hE hR hO hsz hb1 hg1;have q0:=hO1.cell 1;have z0:=hO1.free 1;have p0:=hE1.cell 0;simp only[gE0,gE1]at q0 p0;have hlt1:=hO1.lt;have hO2:=hO1.store 1 (.slice A1 n0 k1);have hch:=pz w1 ⟨w.heap.size+1+1+1,1,none⟩ (.slice A1 n0 k1);have hE2:=hE1.chg hch (by simp);have hR2:=hR1.chg hch (by simp);have hbl2:=hbl1.setCell (p:=⟨w.heap.size+1+1+1,1,none⟩) (by simp;omega) (.slice A1 n0 k1);have ho2:=ny ho1 hch (fun g hg h=>by
  have:=(ho1.lt g hg).1;simp at h;omega)
 simp only[List.set_cons_succ,List.set_cons_zero]at hO2;clear hO1 hE1 hR1 hbl1 ho1 hch;go_wp2_with fail;clear q0 z0 p0;generalize w1.setCell ⟨w.heap.size+1+1+1,1,none⟩ (.slice A1 n0 k1)=W at *
 go_loopw [20] (fun i wr=>∃(k N cp:Nat) (A':Option Addr) (fs:List (Int×Int)),k≤m∧i=.int .i64 (k:Int)∧Hid (dropAll (ds.take k) fs0=some fs)∧N≤n0∧BoxO wr 86 (w.heap.size+1+1+1) [.int .i64 g,.slice A' N cp,.int .u64 (f:Int),.int .u64 (c:Int),.int .u64 (a:Int),.int .u64 (l:Int)]∧wr.ownsRow (w.heap.size+1+1+1+1) 170 2 (.slice A' N cp) N (dw fs)∧BoxO wr 194 (w.heap.size+1) [.slice D m d,.slice A2 n2 c2,.int .i64 G,.int .u64 (F:Int),.int .u64 (C:Int),.int .u64 (AA:Int),.int .u64 (L:Int)]∧BoxO wr 86 (w.heap.size+1+1) [.int .i64 0,.slice none 0 0,.int .u64 0,.int .u64 0,.int .u64 0,.int .u64 0]∧Below w.heap.size w wr) (fun i _=>m - (intOf i).toNat)
 case atStart=>exact⟨0,n0,k1,A1,fs0,Nat.zero_le _,rfl,Lib.hid rfl,Nat.le_refl _,hO2,ho2,hE2,hR2,hbl2⟩
 case round=>
  obtain⟨k,N,cp,A',fs,hk,rfl,hdr,hN,hO,ho,hE,hR,hbl⟩:=hrel;clear hO2 hE2 hR2 hbl2 ho2;obtain⟨_,_,hsl,hNc,hcm,hbs⟩:=ay ho;injection hsl with hsl1 hsl2 hsl3;subst hsl1 hsl3;clear hsl2;have q1:=hO.cell 1;have z1:=hO.free 1;simp only[gE0,gE1]at q1;have hltO:=hO.lt
  by_cases hlt:k < m
  ·obtain⟨da,hl,rfl,hdb,hdc⟩:=(hrd.below hbl).int_ hlt
   have hd1:=HDT.out k hl;rw[hdr.out]at hd1;have hsp:=HDS.out (k+1);generalize ds[k]=x at *;have HD1:Hid (dropAll (ds.take (k+1)) fs0=drop1 x fs):=Lib.hid hd1;have HSP:=Lib.hid hsp;clear hd1 hsp hdr hl;have hfl:=(Row.own ho).flen;have hrA:=(Row.own ho).alloc (Nat.le_refl _) (.cells #[.int .i64 x] 3);have hXc:(wr.alloc (.cells #[.int .i64 x] 3)).cell? ⟨wr.heap.size,0,none⟩=some (.int .i64 x):=(BoxO.new wr #[.int .i64 x] 3).cell 0;have hbA:=(Below.refl wr.heap.size wr).alloc (Nat.le_refl _) (.cells #[.int .i64 x] 3);have hfx:=iw3 293 (fun _ _=>rfl) ⟨wr.heap.size,0,none⟩ (fun f=>f.2==x) A' N cp fs (wr.alloc (.cells #[.int .i64 x] 3)) (by omega) (hrA.up (by simp)) (fun f w2 hb2=>tw4 f ⟨wr.heap.size,0,none⟩ x w2 ((hb2.cell (p:=⟨wr.heap.size,0,none⟩) (by simp)).trans hXc));have hO':=hO.alloc (.cells #[.int .i64 x] 3);have hE':=hE.alloc (.cells #[.int .i64 x] 3);have hR':=hR.alloc (.cells #[.int .i64 x] 3);have ho':=ho.alloc (.cells #[.int .i64 x] 3);have hbl':=az hbl hbA;clear hrA hXc hbA hO hE hR ho hbl
   cases hany:fs.any (fun f=>f.2==x) with
   |false=>
    rw[cx1 hany]at hfx;have hno:AP=none:=HAP1.out (HSP.out (by rw[HD1.out,drop1,hany];rfl));have HNO:=Lib.hid hno;clear hno hany;go_wp2_with fail;refine hfx.mono ?_;rintro e w2 ⟨rfl,hb2⟩;have hRz:=hR'.below hb2;have hbz:=az hbl' hb2;have r0:=hRz.cell 0;have r1:=hRz.cell 1;have r2:=hRz.cell 2;have r3:=hRz.cell 3;have r4:=hRz.cell 4;have r5:=hRz.cell 5;have y0:=hRz.free 0;have y1:=hRz.free 1;have y2:=hRz.free 2;have y3:=hRz.free 3;have y4:=hRz.free 4;have y5:=hRz.free 5;simp only[gE0,gE1]at r0 r1 r2 r3 r4 r5;clear hfx hb2 hO' hE' hR' ho' hbl' q1 z1 hRz;go_wp2_with fail;refine bodyPost_ret (v:=.tuple #[.agg #[.int .i64 0,.slice none 0 0,.int .u64 0,.int .u64 0,.int .u64 0,.int .u64 0],.bool false]) (by simp[results,go_sem, *]) rfl ?_;unfold gw3;rw[HNO.out];exact⟨(((((hbz.setCell (by simp;omega) _).setCell (by simp;omega) _).setCell (by simp;omega) _).setCell (by simp;omega) _).setCell (by simp;omega) _).setCell (by simp;omega) _,rfl⟩
   |true=>
    obtain⟨i,hfi,hil,hpi,hix⟩:=cx4 hany;rw[hfi]at hfx;have hiN:i < N:=by omega
    have her:=rx3 hil hix;have hd2:dropAll (ds.take (k+1)) fs0=some (fs.eraseIdx i):=by rw[HD1.out,drop1,hany,if_pos rfl,her]
    have HD2:=Lib.hid hd2;clear hfi hpi hix her hd2 hany HD1 HSP;go_wp2_with fail;refine hfx.mono ?_;rintro e w2 ⟨rfl,hb2⟩;have hO3:=hO'.below hb2;have hE3:=hE'.below hb2;have hR3:=hR'.below hb2;have ho3:=own_below ho' hb2;have hbl3:=az hbl' hb2;clear hfx hb2 hO' hE' hR' ho' hbl' q1 z1
    rcases ho3.2 with ⟨hv,h0⟩|⟨gg,cap,cur,hv,hgb,hgh,_⟩
    ·omega
    injection hv with hv1 hv2 hv3;subst hv1 hv3;clear hv2;have hggl:gg < w2.heap.size:=(Array.getElem?_eq_some_iff.1 hgh).1;have q1:=hO3.cell 1;simp only[gE0,gE1]at q1;have hdel:=gv4 (w.heap.size+1+1+1+1) gg N cp i fs w2 ho3 hiN;clear hgh ho3;go_wp2_with fail;refine hdel.mono ?_;rintro e w3 ⟨rfl,ho4,hc4⟩;have hO4:=hO3.chg hc4 (by simp;omega);have hE4:=hE3.chg hc4 (by simp;omega);have hR4:=hR3.chg hc4 (by simp;omega);have hbl4:=hbl3.trans (hc4.below hbl3.size (by intro q hq;simp at hq;omega));clear hdel hO3 hE3 hR3 hbl3 hc4 q1;have q1:=hO4.cell 1;have z1:=hO4.free 1;simp only[gE0,gE1]at q1;have hch:=pz w3 ⟨w.heap.size+1+1+1,1,none⟩ (.slice (some ⟨gg,0,none⟩) (N - 1) cp);have hO5:=hO4.store 1 (.slice (some ⟨gg,0,none⟩) (N - 1) cp);simp only[List.set_cons_succ,List.set_cons_zero]at hO5;have hE5:=hE4.chg hch (by simp);have hR5:=hR4.chg hch (by simp);have ho5:=ny ho4 hch (fun q hq h=>by
     have:=(ho4.lt q hq).1;simp at h;omega)
    have hbl5:=hbl4.setCell (p:=⟨w.heap.size+1+1+1,1,none⟩) (by simp;omega) (.slice (some ⟨gg,0,none⟩) (N - 1) cp);clear hO4 hE4 hR4 ho4 hbl4 hch;go_wp2_with fail;go_roundw
    case rel=>exact⟨k+1,N - 1,cp,some ⟨gg,0,none⟩,fs.eraseIdx i,by omega,by go_num,HD2,by omega,hO5,ho5,hE5,hR5,hbl5⟩
    case measure=>simp[intOf];omega
  ·obtain rfl:m=k:=by omega
   have hdall:dropAll ds fs0=some fs:=by have h:=hdr.out;rwa [List.take_of_length_le (by omega)]at h
   have hap:=HAP2.out fs hdall;have HAP:=Lib.hid hap;clear hdall hap hdr HAP1 HAP2 HDT HDS;have p1:=hE.cell 1;simp only[gE0,gE1]at p1;go_wp2_with (at_builtin;refine jq ?_);refine gy (lq rfl (.tmp 40) (.tmp 42) _ rfl (w.heap.size+1+1+1+1) 170 i0 _ 2 16 Tryz.underlying84 hi0 hz0 hz1 hz2 rfl (by omega) wr (Below.refl _ _) (by omega) _ N (dw fs) rfl ho w.heap.size A2 n2 c2 (dw ad) rfl (hra.below hbl) (fj1 _) (N+n2) (dw (fs++ad)) rfl (sj1 _ _).symm (by unfold maxLen;omega) (by omega) ?_);intro A3 c3 w3 ho3 hb3 hg3 hc3 hm3;have hbl3:=hbl.trans (hb3.mono (by omega));have hE3:BoxO w3 _ _ _:=(hb3.block _ (by omega)).trans hE;have hR3:BoxO w3 _ _ _:=(hb3.block _ (by omega)).trans hR;have hO3:BoxO w3 _ _ _:=(hb3.block _ (by omega)).trans hO;have hF3:=xj1 ho3 (Nat.le_refl _);clear ho hE hR hO hb3 hg3 q1 z1 p1 ho3;go_wp2_with fail;refine(ev4 A3 (N+n2) c3 w3 hc3 hm3).mono ?_;rintro e w4 ⟨rfl,rfl⟩;have q1:=hO3.cell 1;have z1:=hO3.free 1;simp only[gE0,gE1]at q1;have hch:=pz w3 ⟨w.heap.size+1+1+1,1,none⟩ (.slice A3 (N+n2) (N+n2));have hO5:=hO3.store 1 (.slice A3 (N+n2) (N+n2));simp only[List.set_cons_succ,List.set_cons_zero]at hO5;have hE5:=hE3.chg hch (by simp);have hR5:=hR3.chg hch (by simp);have hF5:=hF3.chg hch (fun q hq h=>by
    have:=hF3.low q hq;simp at h;omega)
   have hbl5:=hbl3.setCell (p:=⟨w.heap.size+1+1+1,1,none⟩) (by simp;omega) (.slice A3 (N+n2) (N+n2));clear hO3 hE3 hR3 hbl3 hch hF3;have p2:=hE5.cell 2;simp only[gE0,gE1]at p2;obtain⟨g',hg'⟩:∃g',g'=(if G=0 then g else G):=⟨_,rfl⟩;have HG:=Lib.hid hg';clear hg';go_upto_if 48 with (fail)
   generalize w3.setCell ⟨w.heap.size+1+1+1,1,none⟩ (.slice A3 (N+n2) (N+n2))=W5 at *;clear q1 z1 hNc hcm hbs
   go_cut [] (fun wx=>BoxO wx 86 (w.heap.size+1+1+1) [.int .i64 g',.slice A3 (N+n2) (N+n2),.int .u64 (f:Int),.int .u64 (c:Int),.int .u64 (a:Int),.int .u64 (l:Int)]∧BoxO wx 194 (w.heap.size+1) [.slice D m d,.slice A2 n2 c2,.int .i64 G,.int .u64 (F:Int),.int .u64 (C:Int),.int .u64 (AA:Int),.int .u64 (L:Int)]∧BoxO wx 86 (w.heap.size+1+1) [.int .i64 0,.slice none 0 0,.int .u64 0,.int .u64 0,.int .u64 0,.int .u64 0]∧ez1 (w.heap.size+1+1+1+1) wx A3 (N+n2) c3 (fs++ad)∧Below w.heap.size w wx)
   case first=>
    by_cases hG:G=0
    ·have e0:(G !=0)=false:=by simp[hG]
     have e1:g'=g:=by rw[HG.out,if_pos hG]
     subst e1;subst hG;clear HG e0;go_wp2_with fail
     go_meet
     exact⟨hO5,hE5,hR5,hF5,hbl5⟩
    ·have e0:(G !=0)=true:=by simpa using hG
     have e1:g'=G:=by rw[HG.out,if_neg hG]
     subst e1;have q0:=hO5.cell 0;have z0:=hO5.free 0;simp only[gE0]at q0;have hch:=pz W5 ⟨w.heap.size+1+1+1,0,none⟩ (.int .i64 g');have hO6:=hO5.store 0 (.int .i64 g');simp only[List.set_cons_zero]at hO6;have hE6:=hE5.chg hch (by simp);have hR6:=hR5.chg hch (by simp);have hF6:=hF5.chg hch (fun q hq h=>by
      have:=hF5.low q hq;simp at h;omega)
     have hbl6:=hbl5.setCell (p:=⟨w.heap.size+1+1+1,0,none⟩) (by simp;omega) (.int .i64 g');clear HG hG hch hO5 hE5 hR5 hF5 hbl5;go_wp2_with fail
     go_meet
     exact⟨hO6,hE6,hR6,hF6,hbl6⟩
   case rest=>
    obtain⟨hO6,hE6,hR6,hF6,hbl6⟩:=hcut;clear hO5 hE5 hR5 hF5 hbl5 p2;have p3:=hE6.cell 3;have p4:=hE6.cell 4;have p5:=hE6.cell 5;have p6:=hE6.cell 6;simp only[gE0,gE1]at p3 p4 p5 p6;have hlt6:=hO6.lt;have hQ:=BoxO.new wc #[.int .u64 (F:Int),.pointer (some ⟨w.heap.size+1+1+1,2,none⟩),.int .u64 (C:Int),.pointer (some ⟨w.heap.size+1+1+1,3,none⟩),.int .u64 (AA:Int),.pointer (some ⟨w.heap.size+1+1+1,4,none⟩),.int .u64 (L:Int),.pointer (some ⟨w.heap.size+1+1+1,5,none⟩)] 353;have hO7:=hO6.alloc (.cells #[.int .u64 (F:Int),.pointer (some ⟨w.heap.size+1+1+1,2,none⟩),.int .u64 (C:Int),.pointer (some ⟨w.heap.size+1+1+1,3,none⟩),.int .u64 (AA:Int),.pointer (some ⟨w.heap.size+1+1+1,4,none⟩),.int .u64 (L:Int),.pointer (some ⟨w.heap.size+1+1+1,5,none⟩)] 353);have hR7:=hR6.alloc (.cells #[.int .u64 (F:Int),.pointer (some ⟨w.heap.size+1+1+1,2,none⟩),.int .u64 (C:Int),.pointer (some ⟨w.heap.size+1+1+1,3,none⟩),.int .u64 (AA:Int),.pointer (some ⟨w.heap.size+1+1+1,4,none⟩),.int .u64 (L:Int),.pointer (some ⟨w.heap.size+1+1+1,5,none⟩)] 353);have hF7:=hF6.below ((Below.refl wc.heap.size wc).alloc (Nat.le_refl _) (.cells #[.int .u64 (F:Int),.pointer (some ⟨w.heap.size+1+1+1,2,none⟩),.int .u64 (C:Int),.pointer (some ⟨w.heap.size+1+1+1,3,none⟩),.int .u64 (AA:Int),.pointer (some ⟨w.heap.size+1+1+1,4,none⟩),.int .u64 (L:Int),.pointer (some ⟨w.heap.size+1+1+1,5,none⟩)] 353));have hbl7:=hbl6.alloc hbl6.size (.cells #[.int .u64 (F:Int),.pointer (some ⟨w.heap.size+1+1+1,2,none⟩),.int .u64 (C:Int),.pointer (some ⟨w.heap.size+1+1+1,3,none⟩),.int .u64 (AA:Int),.pointer (some ⟨w.heap.size+1+1+1,4,none⟩),.int .u64 (L:Int),.pointer (some ⟨w.heap.size+1+1+1,5,none⟩)] 353);clear hO6 hR6 hF6 hbl6;go_wp2_with fail;clear p3 p4 p5 p6 hE6;obtain⟨qb,hqb⟩:∃qb,qb=wc.heap.size:=⟨_,rfl⟩;have hqo:w.heap.size+1+1+1 < qb:=by omega
    simp only[←hqb]at hQ ⊢;change Code.wp _ _ _ _ (wc.alloc (.cells #[.int .u64 (F:Int),.pointer (some ⟨w.heap.size+1+1+1,2,none⟩),.int .u64 (C:Int),.pointer (some ⟨w.heap.size+1+1+1,3,none⟩),.int .u64 (AA:Int),.pointer (some ⟨w.heap.size+1+1+1,4,none⟩),.int .u64 (L:Int),.pointer (some ⟨w.heap.size+1+1+1,5,none⟩)] 353));generalize wc.alloc (.cells #[.int .u64 (F:Int),.pointer (some ⟨w.heap.size+1+1+1,2,none⟩),.int .u64 (C:Int),.pointer (some ⟨w.heap.size+1+1+1,3,none⟩),.int .u64 (AA:Int),.pointer (some ⟨w.heap.size+1+1+1,4,none⟩),.int .u64 (L:Int),.pointer (some ⟨w.heap.size+1+1+1,5,none⟩)] 353)=V at *;have HQB:=Lib.hid hqb;clear hqb hlt6;obtain⟨f',hf'⟩:∃x,orElse F f=x:=⟨_,rfl⟩;obtain⟨c',hc'⟩:∃x,orElse C c=x:=⟨_,rfl⟩;obtain⟨a',ha'⟩:∃x,orElse AA a=x:=⟨_,rfl⟩;obtain⟨l',hl'⟩:∃x,orElse L l=x:=⟨_,rfl⟩;have hap:=HAP.out;rw[hf',hc',ha',hl',←HG.out]at hap;have HAP2:=Lib.hid hap;have HF:=Lib.hid hf';have HC:=Lib.hid hc';have HA:=Lib.hid ha';have HL:=Lib.hid hl';clear hap HAP hf' hc' ha' hl' HG
    go_loopw [70] (fun i wr=>∃k x0 x1 x2 x3:Nat,k≤4∧i=.int .i64 (k:Int)∧BoxO wr 86 (w.heap.size+1+1+1) [.int .i64 g',.slice A3 (N+n2) (N+n2),.int .u64 (x0:Int),.int .u64 (x1:Int),.int .u64 (x2:Int),.int .u64 (x3:Int)]∧
     Hid (x0=(if 0 < k then f' else f)∧x1=(if 1 < k then c' else c)∧x2=(if 2 < k then a' else a)∧x3=(if 3 < k then l' else l))∧Chg [w.heap.size+1+1+1] V wr) (fun i _=>4 - (intOf i).toNat)
    case atStart=>exact⟨0,f,c,a,l,by omega,rfl,hO7,Lib.hid ⟨rfl,rfl,rfl,rfl⟩,Chg.refl _ _⟩
    case round=>
     obtain⟨k,x0,x1,x2,x3,hk,rfl,hBo,hx,hchg⟩:=hrel;have hQr:=hQ.chg hchg (by simp;omega);have hRr:=hR7.chg hchg (by simp);have hlt:=hBo.lt;have o0:=hBo.cell 0;have z0:=hBo.free 0;have o1:=hBo.cell 1;have z1:=hBo.free 1;have o2:=hBo.cell 2;have z2:=hBo.free 2;have o3:=hBo.cell 3;have z3:=hBo.free 3;have o4:=hBo.cell 4;have z4:=hBo.free 4;have o5:=hBo.cell 5;have z5:=hBo.free 5;have p0:=hQr.cell 0;have p1:=hQr.cell 1;have p2:=hQr.cell 2;have p3:=hQr.cell 3;have p4:=hQr.cell 4;have p5:=hQr.cell 5;have p6:=hQr.cell 6;have p7:=hQr.cell 7;simp only[gE0,gE1]at o0 o1 o2 o3 o4 o5 p0 p1 p2 p3 p4 p5 p6 p7
     rcases (by omega:k=0∨k=1∨k=2∨k=3∨k=4) with rfl|rfl|rfl|rfl|rfl
     ·have he:orElse F f=f':=HF.out
      have hx':x0=(if 0 < 0 then f' else f)∧x1=(if 1 < 0 then c' else c)∧x2=(if 2 < 0 then a' else a)∧x3=(if 3 < 0 then l' else l):=hx.out;have HX:=Lib.hid hx'
      by_cases hE:F=0
      ·have e1:((F:Int)==0)=true:=by simp[hE]
       have e2:(!((F:Int)==0))=false:=by rw[e1];rfl
       have hv:f=f':=by rw[←he,hE];rfl
       have HV:=Lib.hid hv;clear hv he hE hx' hx;go_wp2_with fail;go_roundw
       case rel=>
        refine⟨1,x0,x1,x2,x3,by omega,rfl,hBo.alloc _,Lib.hid ?_,hchg.alloc _⟩;have hx':=HX.out;have hv:=HV.out;simp at hx' ⊢;simp[hx',hv]
       case measure=>simp[intOf]
      ·have e1:((F:Int)==0)=false:=by simp;omega
       have e2:(!((F:Int)==0))=true:=by rw[e1];rfl
       have hv:F=f':=by rw[←he,lw1 hE]
       have HV:=Lib.hid hv;clear hv he hE hx' hx;go_wp2_with fail;go_roundw
       case rel=>
        refine⟨1,F,x1,x2,x3,by omega,rfl,(hBo.store 2 _).alloc _,Lib.hid ?_,(hchg.setCell _ (.inl (by simp))).alloc _⟩;have hx':=HX.out;have hv:=HV.out;simp at hx' ⊢;simp[hx',hv]
       case measure=>simp[intOf]
     ·have he:orElse C c=c':=HC.out
      have hx':x0=(if 0 < 1 then f' else f)∧x1=(if 1 < 1 then c' else c)∧x2=(if 2 < 1 then a' else a)∧x3=(if 3 < 1 then l' else l):=hx.out;have HX:=Lib.hid hx'
      by_cases hE:C=0
      ·have e1:((C:Int)==0)=true:=by simp[hE]
       have e2:(!((C:Int)==0))=false:=by rw[e1];rfl
       have hv:c=c':=by rw[←he,hE];rfl
       have HV:=Lib.hid hv;clear hv he hE hx' hx;go_wp2_with fail;go_roundw
       case rel=>
        refine⟨2,x0,x1,x2,x3,by omega,rfl,hBo.alloc _,Lib.hid ?_,hchg.alloc _⟩;have hx':=HX.out;have hv:=HV.out;simp at hx' ⊢;simp[hx',hv]
       case measure=>simp[intOf]
      ·have e1:((C:Int)==0)=false:=by simp;omega
       have e2:(!((C:Int)==0))=true:=by rw[e1];rfl
       have hv:C=c':=by rw[←he,lw1 hE]
       have HV:=Lib.hid hv;clear hv he hE hx' hx;go_wp2_with fail;go_roundw
       case rel=>
        refine⟨2,x0,C,x2,x3,by omega,rfl,(hBo.store 3 _).alloc _,Lib.hid ?_,(hchg.setCell _ (.inl (by simp))).alloc _⟩;have hx':=HX.out;have hv:=HV.out;simp at hx' ⊢;simp[hx',hv]
       case measure=>simp[intOf]
     ·have he:orElse AA a=a':=HA.out
      have hx':x0=(if 0 < 2 then f' else f)∧x1=(if 1 < 2 then c' else c)∧x2=(if 2 < 2 then a' else a)∧x3=(if 3 < 2 then l' else l):=hx.out;have HX:=Lib.hid hx'
      by_cases hE:AA=0
      ·have e1:((AA:Int)==0)=true:=by simp[hE]
       have e2:(!((AA:Int)==0))=false:=by rw[e1];rfl
       have hv:a=a':=by rw[←he,hE];rfl
       have HV:=Lib.hid hv;clear hv he hE hx' hx;go_wp2_with fail;go_roundw
       case rel=>
        refine⟨3,x0,x1,x2,x3,by omega,rfl,hBo.alloc _,Lib.hid ?_,hchg.alloc _⟩;have hx':=HX.out;have hv:=HV.out;simp at hx' ⊢;simp[hx',hv]
       case measure=>simp[intOf]
      ·have e1:((AA:Int)==0)=false:=by simp;omega
       have e2:(!((AA:Int)==0))=true:=by rw[e1];rfl
       have hv:AA=a':=by rw[←he,lw1 hE]
       have HV:=Lib.hid hv;clear hv he hE hx' hx;go_wp2_with fail;go_roundw
       case rel=>
        refine⟨3,x0,x1,AA,x3,by omega,rfl,(hBo.store 4 _).alloc _,Lib.hid ?_,(hchg.setCell _ (.inl (by simp))).alloc _⟩;have hx':=HX.out;have hv:=HV.out;simp at hx' ⊢;simp[hx',hv]
       case measure=>simp[intOf]
     ·have he:orElse L l=l':=HL.out
      have hx':x0=(if 0 < 3 then f' else f)∧x1=(if 1 < 3 then c' else c)∧x2=(if 2 < 3 then a' else a)∧x3=(if 3 < 3 then l' else l):=hx.out;have HX:=Lib.hid hx'
      by_cases hE:L=0
      ·have e1:((L:Int)==0)=true:=by simp[hE]
       have e2:(!((L:Int)==0))=false:=by rw[e1];rfl
       have hv:l=l':=by rw[←he,hE];rfl
       have HV:=Lib.hid hv;clear hv he hE hx' hx;go_wp2_with fail;go_roundw
       case rel=>
        refine⟨4,x0,x1,x2,x3,by omega,rfl,hBo.alloc _,Lib.hid ?_,hchg.alloc _⟩;have hx':=HX.out;have hv:=HV.out;simp at hx' ⊢;simp[hx',hv]
       case measure=>simp[intOf]
      ·have e1:((L:Int)==0)=false:=by simp;omega
       have e2:(!((L:Int)==0))=true:=by rw[e1];rfl
       have hv:L=l':=by rw[←he,lw1 hE]
       have HV:=Lib.hid hv;clear hv he hE hx' hx;go_wp2_with fail;go_roundw
       case rel=>
        refine⟨4,x0,x1,x2,L,by omega,rfl,(hBo.store 5 _).alloc _,Lib.hid ?_,(hchg.setCell _ (.inl (by simp))).alloc _⟩;have hx':=HX.out;have hv:=HV.out;simp at hx' ⊢;simp[hx',hv]
       case measure=>simp[intOf]
     ·have hx':x0=(if 0 < 4 then f' else f)∧x1=(if 1 < 4 then c' else c)∧x2=(if 2 < 4 then a' else a)∧x3=(if 3 < 4 then l' else l):=hx.out
      simp at hx';obtain⟨rfl,rfl,rfl,rfl⟩:=hx';have hbr:Below w.heap.size w wr:=hbl7.trans (hchg.below hbl7.size (by intro q hq;simp at hq;omega));have hFr:=hF7.chg hchg (fun q hq h=>by
       have:=hF7.low q hq;simp at h;omega)
      have hok:=py4 ⟨g',fs++ad,x0,x1,x2,x3⟩ A3 (N+n2) (N+n2) wr (by omega) (Nat.le_refl _) (Nat.le_trans hFr.nc hFr.cm) hFr.row;unfold Vw.val at hok;simp only at hok;have hap:=HAP2.out;generalize hux:(⟨g',fs++ad,x0,x1,x2,x3⟩:Vw)=u at *;obtain⟨ob,hob⟩:∃ob,ob=u.ok:=⟨_,rfl⟩;rw[←hob]at hok;have HOB:=Lib.hid hob;have HUX:=Lib.hid hux;have HAP3:=Lib.hid hap;clear hx hux hob hap HAP2;clear p0 p1 p2 p3 p4 p5 p6 p7 z0 z1 z2 z3 z4 z5 hQr hQ hO7 hR7 hF7 hbl7 hchg;go_wp2_with fail;refine hok.mono ?_;rintro e w2 ⟨rfl,hb2⟩;have hB2:=hBo.below hb2;have hR2:=hRr.below hb2;have hF2:=hFr.below hb2;have hb3:=az hbr hb2;clear hok o0 o1 o2 o3 o4 o5 hBo hRr hFr hb2 hbr;have o0:=hB2.cell 0;have r0:=hR2.cell 0;have z0:=hR2.free 0;have o1:=hB2.cell 1;have r1:=hR2.cell 1;have z1:=hR2.free 1;have o2:=hB2.cell 2;have r2:=hR2.cell 2;have z2:=hR2.free 2;have o3:=hB2.cell 3;have r3:=hR2.cell 3;have z3:=hR2.free 3;have o4:=hB2.cell 4;have r4:=hR2.cell 4;have z4:=hR2.free 4;have o5:=hB2.cell 5;have r5:=hR2.cell 5;have z5:=hR2.free 5;simp only[gE0,gE1]at o0 o1 o2 o3 o4 o5 r0 r1 r2 r3 r4 r5;clear hB2 hR2
      cases ob with
      |false=>
       go_wp2_with fail;refine bodyPost_ret (v:=.tuple #[.agg #[.int .i64 0,.slice none 0 0,.int .u64 0,.int .u64 0,.int .u64 0,.int .u64 0],.bool false]) (by simp[results,go_sem, *]) rfl ?_;unfold gw3;rw[HAP3.out,←HOB.out,if_neg (by simp)];exact⟨(((((hb3.setCell (by simp;omega) _).setCell (by simp;omega) _).setCell (by simp;omega) _).setCell (by simp;omega) _).setCell (by simp;omega) _).setCell (by simp;omega) _,rfl⟩
      |true=>
       go_wp2_with fail;refine bodyPost_ret (v:=.tuple #[.agg #[.int .i64 g',.slice A3 (N+n2) (N+n2),.int .u64 (x0:Int),.int .u64 (x1:Int),.int .u64 (x2:Int),.int .u64 (x3:Int)],.bool true]) (by simp[results,go_sem, *]) rfl ?_;unfold gw3;rw[HAP3.out,←HOB.out,if_pos rfl];refine⟨(((((hb3.setCell (by simp;omega) _).setCell (by simp;omega) _).setCell (by simp;omega) _).setCell (by simp;omega) _).setCell (by simp;omega) _).setCell (by simp;omega) _,A3,N+n2,N+n2,by rw[←HUX.out];rfl,?_⟩;have hne:∀q,A3=some q→q.block≠w.heap.size+1+1:=fun q hq=>by
        have:=hF2.low q hq;omega
       have hch:=(((((pz w2 ⟨w.heap.size+1+1,0,none⟩ (.int .i64 g')).setCell (p:=⟨w.heap.size+1+1,1,none⟩) (.slice A3 (N+n2) (N+n2)) (.inl (by simp))).setCell (p:=⟨w.heap.size+1+1,2,none⟩) (.int .u64 (x0:Int)) (.inl (by simp))).setCell (p:=⟨w.heap.size+1+1,3,none⟩) (.int .u64 (x1:Int)) (.inl (by simp))).setCell (p:=⟨w.heap.size+1+1,4,none⟩) (.int .u64 (x2:Int)) (.inl (by simp))).setCell (p:=⟨w.heap.size+1+1,5,none⟩) (.int .u64 (x3:Int)) (.inl (by simp));have hF9:=hF2.chg hch (fun q hq h=>hne q hq (by simpa using h));rw[←HUX.out];exact⟨hF9.row,Nat.le_refl _,Nat.le_trans hF9.nc hF9.cm,fun q hq=>by have:=hF9.low q hq;omega⟩
end
end Go.Proofs.YthjdpplgfdihoaaGreatDoor
