/- Texts StoN, PlainOld in one. No conditions. -/
import Derived.Test.YthjdpplgfdihoaaGreatDoorBunAA
import Derived.Test.YthjdpplgfdihoaaGreatDoorBunAU
import Derived.Test.YthjdpplgfdihoaaGreatDoorBunAP
import Derived.Test.YthjdpplgfdihoaaGreatDoorBunAT
import Derived.Test.YthjdpplgfdihoaaGreatDoorBunAL
import Derived.Test.YthjdpplgfdihoaaGreatDoorBunAS

set_option linter.unusedSimpArgs false
set_option linter.unusedVariables false
set_option maxRecDepth 100000
set_option maxHeartbeats 16000000
namespace Go.Proofs.YthjdpplgfdihoaaGreatDoor
section
open Go Go.RowKit Go.Lib Go.Shelf
variable {w w1 w2:World} {X X1 X2:Dw} {S S1 S2:Sd} {Y Y1 Y2:Yw} {V V1 V2:Sv}
structure HAt (b hi:Nat) (w:World) (A:Option Addr) (n c:Nat) (ls:List (List It)):Prop where
 len:n=ls.length
 nc:n≤c
 cm:c≤maxLen
 low:∀a,A=some a→b≤a.block
 rows:∃vs,Row hi w A n 1 vs∧ls.length=vs.length∧∀i (h:i < ls.length),∃A k c,vs[i]?=some (.slice A k c)∧k≤c∧c≤maxLen∧Row hi w A k 5 (itc ls[i])∧∀a,A=some a→b≤a.block
theorem HNew.at_ {b n c:Nat} {w:World} {A:Option Addr} {ls:List (List It)} (h:HNew b w A n c ls):HAt b w.heap.size w A n c ls:=by
 obtain⟨h1,h2,h3,h4,vs,h5,h6,h7⟩:=h;exact⟨h1,h2,h3,h4,vs,h5,h6,fun i hi=>let ⟨A,k,c,z1,z2,z3,z4,z5⟩:=h7 i hi;⟨A,k,c,z1,z2,z3,z4,fun a ha=>(z5 a ha).1⟩⟩
theorem vz2 {b hi n size:Nat} {w w':World} {A:Option Addr} {xs:List Value} {F:List Nat} (c:Chg F w w') (r:Row hi w A n size xs) (hh:hi≤w.heap.size) (hl:∀a,A=some a→b≤a.block) (hF:∀g∈F,g < b∨hi≤g):Row hi w' A n size xs:=
 yj c r hh fun j hj a ha hm=>by
  obtain⟨a',e,q,_⟩:=r.cell j hj;rw[ha]at e;injection e with e;subst e;have:=hl a ha
  rcases hF _ hm with h|h<;>omega
theorem HAt.chg {b hi n c:Nat} {w w':World} {A:Option Addr} {ls:List (List It)} {F:List Nat} (h:HAt b hi w A n c ls) (k:Chg F w w') (hh:hi≤w.heap.size) (hF:∀g∈F,g < b∨hi≤g):HAt b hi w' A n c ls:=by
 obtain⟨vs,h5,h6,h7⟩:=h.rows;exact⟨h.len,h.nc,h.cm,h.low,vs,vz2 k h5 hh h.low hF,h6,fun i hi=>let ⟨A,k',c,z1,z2,z3,z4,z5⟩:=h7 i hi;⟨A,k',c,z1,z2,z3,vz2 k z4 hh z5 hF,z5⟩⟩
theorem HAt.dx5 {b hi n c:Nat} {w:World} {A:Option Addr} {ls:List (List It)} (h:HAt b hi w A n c ls) (hh:hi≤w.heap.size):qx2 w.heap.size w A n ls:=by
 obtain⟨vs,h5,h6,h7⟩:=h.rows;exact⟨vs,h5.up hh,h.len.symm,fun i hi=>let ⟨A,k,c,z1,z2,z3,z4,_⟩:=h7 i hi;⟨A,k,c,z1,z2,z3,z4.up hh⟩⟩
theorem HAt.get {b hi n c:Nat} {w:World} {A:Option Addr} {ls:List (List It)} (h:HAt b hi w A n c ls) {i:Nat} (hi':i < n):
  ∃a A1 k c1,∃hl:i < ls.length,A=some a∧a.block < hi∧w.cell? (a.add i)=some (.slice A1 k c1)∧Row hi w A1 k 5 (itc ls[i])∧(∀a,A1=some a→b≤a.block):=by
 obtain⟨vs,h5,h6,h7⟩:=h.rows;obtain⟨a,v,e,q,hv,hc⟩:=h5.at1 hi';have hl:i < ls.length:=by rw[←h.len];exact hi'
 obtain⟨A1,k,c1,z1,z2,z3,z4,z5⟩:=h7 i hl;rw[z1]at hv;injection hv with hv;exact⟨a,A1,k,c1,hl,e,q,by rw[hc,←hv],z4,z5⟩
theorem Dm.ez5 (h:Dm w X S):∀g∈X.foot,g < w.heap.size:=h.dk.lt
theorem aw4 {W:World} {s m g mm L:Nat} {ns:List Nd} {P:Sl} {B:Nat} (hD:Dm W X S) (h0:NG≤B) (hx:∀g∈X.foot,g < B)
  (hs:BoxO W 153 s [.pointer (some ⟨X.d,0,none⟩),.pointer (some ⟨m,0,none⟩),.pointer (some ⟨g,0,none⟩),.pointer (some ⟨mm,0,none⟩),.slice none 0 0,.slice none 0 0,.int .i64 0,.int .u32 0,.int .i32 0,.int .u32 0,.bool false])
  (hk:GK W m X.d V.M P) (hv:Vrow W X m P V.M.v.files) (hf:V.M.v.files=[]) (hl:LgAt W g X.d V.nm V.sz V.ct) (hm:MmAt W mm L ns) (hi:its ns=V.mem) (hV:V.tabs=[]∧V.st=[]∧V.only=false)
  (l1:B≤s∧B≤m∧B≤g) (l2:s≠m∧s≠g∧m≠g) (l3:∀x∈mm::skF L ns,B≤x∧x≠s∧x≠m∧x≠g):SvAt W X S ⟨s,m,g,mm,L,ns,P,⟨none,0,0⟩,⟨none,0,0⟩,[]⟩ V:=by
 obtain⟨M,nm,sz,ct,mem,tabs,st,only⟩:=V;obtain⟨rfl,rfl,rfl⟩:=hV;have hy:∀x∈(⟨s,m,g,mm,L,ns,P,⟨none,0,0⟩,⟨none,0,0⟩,[]⟩:Yw).foot,B≤x:=fun x hx=>by
  rcases Yw.aj.1 hx with q|q|q|q|q
  ·rw[q];exact l1.1
  ·rw[q];exact l1.2.1
  ·rw[q];exact l1.2.2
  ·rw[q];exact(l3 _ List.mem_cons_self).1
  ·exact(l3 _ (List.mem_cons_of_mem _ q)).1
 refine⟨hD,hs,hk,hv,fun j hj=>?_,hl,hm,hi,fun _ _=>⟨rfl,Row.nil_,Nat.le_refl _,Nat.zero_le _,fun _=>⟨rfl,rfl⟩,fun p hp=>by cases hp⟩,fun _ _=>Its.nil 0 _,⟨fun x hx1 hx2=>?_,fun hmm=>?_,fun hmm=>?_,fun hmm=>?_⟩,fun x hx1=>Nat.le_trans h0 (hy x hx1)⟩
 ·simp only at hf
  rw[hf]at hj;exact absurd hj (Nat.not_lt_zero _)
 ·have:=hx x hx2
  have:=hy x hx1;omega
 ·rcases List.mem_cons.1 hmm with q|q
  ·exact l2.1 q
  ·rcases List.mem_cons.1 q with q|q
   ·exact l2.2.1 q
   ·exact(l3 _ q).2.1 rfl
 ·rcases List.mem_cons.1 hmm with q|q
  ·exact l2.2.2 q
  ·exact(l3 _ q).2.2.1 rfl
 ·exact(l3 _ hmm).2.2.2 rfl
def St.az2 (ls:List (List It)):List It:=ls.foldl (fun m l=>l.foldl wput m) []
theorem pj3 {ls:List (List It)} {k:Nat} (h:k < ls.length):St.az2 (ls.take (k+1))=ls[k].foldl wput (St.az2 (ls.take k)):=by
 unfold St.az2;rw[←List.take_append_getElem h,List.foldl_append];rfl
theorem oy2 (ls:List (List It)):(St.az2 ls).length≤ls.flatten.length:=by
 have key:∀(ls:List (List It)) (a:List It),(ls.foldl (fun m l=>l.foldl wput m) a).length≤a.length+ls.flatten.length:=fun ls=>by
  induction ls with
  |nil=>intro a;simp
  |cons l r ih=>
   intro a;have h1:=ih (l.foldl wput a);have h2:=jx1 l a;rw[List.foldl_cons,List.flatten_cons,List.length_append];omega
 simpa [St.az2] using key ls []
def St.old (M:Gs) (n:Nat) (ls:List (List It)):Sv:=⟨M,Mn.name Mn.kLog M.v.log,n,ls.length,St.az2 ls,[],joins [] ls.flatten,false⟩
theorem cj4 (h:Dm w X S) (hd:S.dead=false) (hnew:St.uy2 S=false) (M:Gs) (hlk:Gw.look S=(some (M,false),0)) (hf:M.v.files=[]) (hlg:0≤M.v.log∧M.v.log≤1073741824) (hml:M.name.length≤1000)
  (t:List UInt8) (ls:List (List It)) (hrd:S.read (Mn.name Mn.kLog M.v.log)=(t,0)) (hrp:Lg.replay t=(ls,t.length,0)) (hok:∀l∈ls,l≠[]∧l.all It.ok=true) (hnl:ls.length≤100000) (hfl:ls.flatten.length≤100000) (hld:S.load≤1000000):
  Calls Tryz.prog 31 #[.pointer (some ⟨X.d,0,none⟩)] w (tz1 X w (St.sweep M S.list S) (St.old M t.length ls)):=by
 have hin:=rz2 X S w h;rw[hnew]at hin;have c6:=h.dk.box.cell 6;simp only[Dw.cells,gE0,gE1]at c6;rw[hd]at c6;have hlook:=fun W (hb:Below w.heap.size w W)=>dz4 (h.below hb);rw[hlk]at hlook;have hopen:=fun W (hb:Below w.heap.size w W)=>zq3 (h.below hb) (Mn.name Mn.kLog M.v.log) (ej3 M.v.log) t ls hrd hrp;have hname:∀W,Below w.heap.size w W→Calls Tryz.prog 83 #[.string { data:=#[108,111,103] },.int .i64 M.v.log] W fun e w'=>e=.returned (.string (str (Mn.name Mn.kLog M.v.log)))∧Below W.heap.size W w':=fun W hb=>name_any (str Mn.kLog) (by decide) M.v.log (by omega) W (h.env.below hb);have HIN:=Lib.hid hin;have HLK:=Lib.hid hlook;have HOP:=Lib.hid hopen;have HNA:=Lib.hid hname;have HH:=Lib.hid h;have HF:=Lib.hid hf;have HLS:=Lib.hid (And.intro hok (And.intro hnl hfl));have HSW:=Lib.hid (And.intro hlg (And.intro hml hld));clear hin hlook hopen hname h hf hlk hrd hrp hok hnl hfl hnew hlg hml hld hd;go_enter Tryz.func31,Tryz.ntmps31;go_wp2_with (first|(go_at_call 40;go_in)|fail)
 with_reducible refine HIN.out.mono ?_
 rintro e w1 ⟨rfl,hb1⟩;clear HIN c6;have HLK1:=Lib.hid (HLK.out w1 hb1);clear HLK;go_wp2_with fail
 with_reducible refine HLK1.out.mono ?_
 rintro e w2 ⟨hb2,m,P,rfl,hk2,hm2,hvr2,hpn2⟩;clear HLK1;have hbw2:=az hb1 hb2;have hmm:=sq2 w2;have hgv:∀W,Below w2.heap.size w2 W→Calls Tryz.prog 81 #[.pointer (some ⟨m,0,none⟩)] W fun e w'=>∃A c,e=.returned (.agg #[.int .i64 M.v.log,.slice A 0 c,.int .u64 (M.v.floor:Int),.int .u64 (M.v.cert:Int),.int .u64 (M.v.at_:Int),.int .u64 (M.v.lease:Int)])∧Below W.heap.size W w':=fun W hb=>by
  have hpl:P.n=0:=by
   have:=hvr2.row.len;rw[HF.out]at this;simp[dw]at this;omega
  refine(rv1 X.d (hk2.below hb) (hvr2.below hb).row (by omega)).mono ?_;rintro e w' ⟨A,c,rfl,_,hb3⟩;rw[hpl];exact⟨A,c,rfl,hb3⟩
 have HMM:=Lib.hid hmm;have HGV:=Lib.hid hgv;have HM2:=Lib.hid (And.intro hbw2 (And.intro (And.intro hb1.size hm2) (And.intro hk2 hvr2)));clear hmm hgv hbw2 hm2 hk2 hvr2 hb2 hb1 hpn2;go_wp2_with fail
 with_reducible refine HMM.out.mono ?_
 rintro e w3 ⟨mm,L,ns,rfl,hmm3,hits,hb3,hlow3⟩;clear HMM;obtain⟨U,hU⟩:∃U,U=w3.alloc (.cells #[.pointer (some ⟨X.d,0,none⟩),.pointer (some ⟨m,0,none⟩),.pointer none,.pointer (some ⟨mm,0,none⟩),.slice none 0 0,.slice none 0 0,.int .i64 0,.int .u32 0,.int .i32 0,.int .u32 0,.bool false] 153):=⟨_,rfl⟩;have hbx:=BoxO.new w3 #[.pointer (some ⟨X.d,0,none⟩),.pointer (some ⟨m,0,none⟩),.pointer none,.pointer (some ⟨mm,0,none⟩),.slice none 0 0,.slice none 0 0,.int .i64 0,.int .u32 0,.int .i32 0,.int .u32 0,.bool false] 153;have hbA:=(Below.refl w3.heap.size w3).alloc (Nat.le_refl _) (.cells #[.pointer (some ⟨X.d,0,none⟩),.pointer (some ⟨m,0,none⟩),.pointer none,.pointer (some ⟨mm,0,none⟩),.slice none 0 0,.slice none 0 0,.int .i64 0,.int .u32 0,.int .i32 0,.int .u32 0,.bool false] 153);rw[←hU]at hbx hbA;have hUs:U.heap.size=w3.heap.size+1:=by rw[hU];simp
 have hb2U:=az hb3 hbA;have HV:=Lib.hid (HGV.out U hb2U);have HU:=Lib.hid (And.intro hbx (And.intro hb2U (And.intro (hmm3.below hbA) (And.intro hits (And.intro hlow3 (And.intro hb3.size hUs))))));have hlt3:∀g∈mm::skF L ns,g < w3.heap.size:=hmm3.lt;have HLT3:=Lib.hid hlt3;clear hbx hbA hb2U hmm3 hits hlow3 hb3 HGV hlt3;have HUe:=Lib.hid hU;go_wp2_with fail;rw[←HUe.out]
 with_reducible refine HV.out.mono ?_
 rintro e w4 ⟨A4,c4,rfl,hb4⟩;clear HV hU;have hbV:=BoxO.new w4 #[.int .i64 M.v.log,.slice A4 0 c4,.int .u64 (M.v.floor:Int),.int .u64 (M.v.cert:Int),.int .u64 (M.v.at_:Int),.int .u64 (M.v.lease:Int)] 86;have hb4A:=(Below.refl w4.heap.size w4).alloc (Nat.le_refl _) (.cells #[.int .i64 M.v.log,.slice A4 0 c4,.int .u64 (M.v.floor:Int),.int .u64 (M.v.cert:Int),.int .u64 (M.v.at_:Int),.int .u64 (M.v.lease:Int)] 86);have hbU4:=az hb4 hb4A;have hw4:=az (az HM2.out.1 HU.out.2.1) hbU4;have HNM:=Lib.hid (HNA.out _ hw4);have HB4:=Lib.hid (And.intro hbV (And.intro hbU4 (And.intro hw4 hb4.size)));clear hbV hb4A hbU4 hw4 hb4 HNA;go_wp2_with fail
 with_reducible refine HNM.out.mono ?_
 rintro e w6 ⟨rfl,hb6⟩;have hV6:=HB4.out.1.below hb6;have hU6:=az HB4.out.2.1 hb6;have hw6:=az HB4.out.2.2.1 hb6;have h46:w4.heap.size < w6.heap.size:=by have:=hV6.lt;exact this
 have HLO:=Lib.hid (HOP.out w6 hw6);have HB6:=Lib.hid (And.intro hV6 (And.intro hU6 (And.intro hw6 (And.intro h46 HB4.out.2.2.2))));clear hV6 hU6 hw6 hb6 HB4 HNM HOP h46;go_wp2_with fail
 with_reducible refine HLO.out.mono ?_
 rintro e w7 ⟨g,A7,n7,c7,rfl,hlg7,hg7,hn7,hb7⟩;have hV7:=HB6.out.1.below hb7;have v0:=hV7.cell 0;have v1:=hV7.cell 1;have v2:=hV7.cell 2;have v3:=hV7.cell 3;have v4:=hV7.cell 4;have v5:=hV7.cell 5;simp only[gE0,gE1]at v0 v1 v2 v3 v4 v5;have HSO:=Lib.hid (pz3 w3.heap.size (.int .i64 M.v.log) (.int .u64 (M.v.floor:Int)) (.int .u64 (M.v.cert:Int)) (.int .u64 (M.v.at_:Int)) (.int .u64 (M.v.lease:Int)) A4 c4 w7);have HB7:=Lib.hid (And.intro hlg7 (And.intro hg7 (And.intro hn7 hb7)));clear hlg7 hg7 hn7 hb7 hV7 HLO;go_wp2_with fail
 with_reducible refine HSO.out.mono ?_
 rintro e w8 ⟨rfl,hb8⟩;clear v0 v1 v2 v3 v4 v5 HSO;have hU8:=az (az HB6.out.2.1 HB7.out.2.2.2) hb8;have hbx8:=HU.out.1.below hU8;have s2:=hbx8.cell 2;have f2:=hbx8.free 2;have hbx9:=hbx8.store 2 (.pointer (some ⟨g,0,none⟩));have hc9:=(Chg.refl [w3.heap.size] w8).setCell (p:=⟨w3.heap.size,2,none⟩) (.pointer (some ⟨g,0,none⟩)) (.inl (by simp));simp only[gE0,gE1]at s2;simp only[List.set_cons_zero,List.set_cons_succ]at hbx9;go_upto_region 16 with (fail)
 obtain⟨W9,hW9⟩:∃W9,W9=w8.setCell ⟨w3.heap.size,2,none⟩ (.pointer (some ⟨g,0,none⟩)):=⟨_,rfl⟩;rw[←hW9]at hbx9 hc9 ⊢;clear hW9 s2 f2;have z9:=hc9.size;have z8:=hb8.size;have z7:=HB7.out.2.2.2.size;have zg:g < w7.heap.size:=HB7.out.1.lt;have zg6:=HB7.out.2.1;obtain⟨-,hb2U,hmmU,hits,hlow3,z3,zU⟩:=HU.out;obtain⟨hbw2,⟨z1,zm⟩,hk2,hvr2⟩:=HM2.out;obtain⟨-,-,-,z46,z4⟩:=HB6.out;have zm2:m < w2.heap.size:=hk2.lt;have hb28:=az hb2U hU8;have hbw8:=az hbw2 hb28;have hXlt:=HH.out.ez5;have hl3:=HLT3.out;have hne:∀x,w3.heap.size≠x→x∉[w3.heap.size]:=fun x hx hm=>hx (List.mem_singleton.1 hm).symm;have hsv:SvAt W9 X S ⟨w3.heap.size,m,g,mm,L,ns,P,⟨none,0,0⟩,⟨none,0,0⟩,[]⟩ ⟨M,Mn.name Mn.kLog M.v.log,t.length,ls.length,St.az2 [],[],[],false⟩:=by
  refine aw4 (B:=w.heap.size) ((HH.out.below hbw8).chg hc9 (fun x hx=>?_)) HH.out.env.base hXlt hbx9 (BoxO.chg (hk2.below hb28) hc9 (hne _ (by omega))) ⟨?_,hvr2.nc,hvr2.cm,hvr2.nb,hvr2.away⟩ HF.out (BoxO.chg (HB7.out.1.below hb8) hc9 (hne _ (by omega))) ((hmmU.below hU8).chg hc9 (fun x hx=>hne _ (by have:=hl3 x hx;omega))) hits ⟨rfl,rfl,rfl⟩ ⟨by omega,by omega,by omega⟩ ⟨by omega,by omega,by omega⟩ (fun x hx=>?_)
  ·rw[List.mem_singleton.1 hx]
   refine⟨fun hm=>?_,?_⟩
   ·have:=hXlt _ hm
    omega
   ·have:=HH.out.env.base
    omega
  ·have hr:=(hvr2.below hb28).row
   refine(yj hc9 hr (Nat.le_refl _) (fun j hj=>?_)).up hc9.size;rw[HF.out]at hj;exact absurd hj (Nat.not_lt_zero _)
  ·have h5:=hl3 x hx
   have h6:=hlow3 x hx;refine⟨by omega,by omega,by omega,by omega⟩
 have hrows:=((HB7.out.2.2.1.at_).chg (Chg.of_below hb8 []) (Nat.le_refl _) (fun x hx=>by cases hx)).chg hc9 z8 (fun x hx=>by rw[List.mem_singleton.1 hx];omega);have hbw9:Below w.heap.size w W9:=hbw8.trans (hc9.below hbw8.size (fun x hx=>by rw[List.mem_singleton.1 hx];omega));have hmlow:∀x∈mm::skF L ns,w.heap.size≤x∧(x < w6.heap.size∨w7.heap.size≤x):=fun x hx=>by
  have h5:=hl3 x hx;have h6:=hlow3 x hx;omega
 have HSV:=Lib.hid (And.intro hsv (And.intro hrows (And.intro hbw9 (And.intro hmlow (show w7.heap.size≤W9.heap.size by omega)))));have s4:=hbx9.cell 4;simp only[gE0,gE1]at s4;have HLIM:=Lib.hid (show w.heap.size≤w3.heap.size∧w3.heap.size < w6.heap.size∧w6.heap.size≤g by omega);clear hsv hrows hbw9 hmlow hb2U hmmU hits hlow3 hbw2 hk2 hvr2 hb28 hbw8 hXlt hl3 hne hc9 hbx9 hU8 hbx8 hb8 HU HM2 HB6 HB7 HLT3 HUe zg zg6;have HR1:=Lib.hid (ij4 W9);have HR2:=Lib.hid (uv3 W9);go_wp2_with fail
 with_reducible refine HR1.out.mono ?_
 rintro e w10 ⟨rfl,rfl⟩;go_wp2_with fail
 with_reducible refine HR2.out.mono ?_
 rintro e w11 ⟨rfl,rfl⟩;clear HR1 HR2 s4;have hn7:=HSV.out.2.1.len;have hn100:n7≤100000:=by rw[hn7];exact HLS.out.2.1
 have HN7:=Lib.hid hn7;clear hn7;go_wp2
 go_loopw [75] (fun i wr=>∃(k:Nat) (ns':List Nd),k≤n7∧i=.int .i64 (k:Int)∧Hid (SvAt wr X S ⟨w3.heap.size,m,g,mm,L,ns',P,⟨none,0,0⟩,⟨none,0,0⟩,[]⟩ ⟨M,Mn.name Mn.kLog M.v.log,t.length,ls.length,St.az2 (ls.take k),[],[],false⟩∧HAt w6.heap.size w7.heap.size wr A7 n7 c7 ls∧Below w.heap.size w wr∧(∀x∈mm::skF L ns',w.heap.size≤x∧(x < w6.heap.size∨w7.heap.size≤x))∧w7.heap.size≤wr.heap.size)) (fun i _=>n7 - (intOf i).toNat)
 case atStart=>exact⟨0,ns,Nat.zero_le _,rfl,HSV⟩
 case round=>
  obtain⟨k,ns',hk,rfl,HI⟩:=hrel;clear HSV;obtain⟨hsv,hrows,hbw,hlow,hz⟩:=HI.out
  by_cases hlt:k < n7
  ·obtain⟨a,A1,k1,c1,hl,rfl,ha,hc,hr,hra⟩:=hrows.get hlt
   have hk1:=hr.bj1;have hit:=qw1 (ls:=ls) hl;have hle:=jk2 (ls:=ls) (k+1);have hml:=oy2 (ls.take k);have hmt:=pj3 hl;rw[hit,List.length_append]at hle;have hfl:=HLS.out.2.2;have hits:=hsv.its;simp only at hits;have hma:=aq2 hsv.mem A1 k1 c1 ls[k] (by omega) (by rw[hits];omega) (hr.up hz) (fun b hb=>by
    obtain⟨b',e,q,_⟩:=hr.cell 0 (by
     rw[ik];have h0:=List.length_pos_iff.2 (HLS.out.1 _ (List.getElem_mem hl)).1;omega)
    have h1:=hra b hb;rw[hb]at e;injection e with e;subst e;exact⟨fun e=>by have e:b.block=mm:=e;have:=hlow _ List.mem_cons_self;omega,fun hm=>by have:=hlow _ (List.mem_cons_of_mem _ hm);omega⟩) (HLS.out.1 _ (List.getElem_mem hl)).2
   have s3:=hsv.box.cell 3;simp only[Yw.cells,gE0,gE1]at s3;have HMA:=Lib.hid hma;have HK:=Lib.hid (And.intro hmt hits);clear hma hr hra hsv hrows hbw hlow hmt hits hml hle hit hfl hk1;go_wp2_with fail
   with_reducible refine HMA.out.mono ?_
   rintro e wq ⟨ns2,rfl,hm2,hi2,hc2,hf2⟩;have hfin:SvAt wq X S ⟨w3.heap.size,m,g,mm,L,ns2,P,⟨none,0,0⟩,⟨none,0,0⟩,[]⟩ ⟨M,Mn.name Mn.kLog M.v.log,t.length,ls.length,St.az2 (ls.take (k+1)),[],[],false⟩∧HAt w6.heap.size w7.heap.size wq (some a) n7 c7 ls∧Below w.heap.size w wq∧(∀x∈mm::skF L ns2,w.heap.size≤x∧(x < w6.heap.size∨w7.heap.size≤x))∧w7.heap.size≤wq.heap.size:=by
    obtain⟨hsv,hrows,hbw,hlow,_⟩:=HI.out;have hs:=hc2.size;obtain⟨q1,_,_⟩:=hsv.mput hm2 hc2 hf2;refine⟨?_,hrows.chg hc2 hz (fun x hx=>(hlow x hx).2),hbw.trans (hc2.below hbw.size (fun x hx=>(hlow x hx).1)),fun x hx=>?_,by omega⟩
    ·have e:its ns2=St.az2 (ls.take (k+1)):=by rw[hi2,HK.out.1,HK.out.2]
     rw[←e];exact q1
    ·rcases List.mem_cons.1 hx with rfl|hx
     ·exact hlow _ List.mem_cons_self
     ·rcases hf2 x hx with q|q
      ·exact hlow _ (List.mem_cons_of_mem _ q)
      ·have:=hbw.size
       omega
   have HZ:=Lib.hid hfin;clear hfin hm2 hi2 hc2 hf2 HMA HK HI s3 hc;go_wp2;go_roundw
   case rel=>exact⟨k+1,ns2,by omega,by go_num,HZ⟩
   case measure=>simp[intOf];omega
  ·obtain rfl:k=n7:=by omega
   rw[HN7.out,List.take_length]at hsv;have HOF:=Lib.hid (wq4 none 0 0 [] wr (by omega) Row.nil_);have HS:=Lib.hid (And.intro hsv (And.intro hrows (And.intro hbw (And.intro hlow hz))));clear hsv hrows hbw hlow HI;go_wp2_with fail
   with_reducible refine HOF.out.mono ?_
   rintro e wa ⟨Aa,ka,rfl,hka,hia,hba⟩;obtain rfl:ka=0:=hka;have hrw:=(HS.out.2.1.chg (Chg.of_below hba []) hz (fun x hx=>by cases hx)).dx5 (Nat.le_trans hz hba.size);have hcc:=bz3 A7 k c7 ls wa (by omega) (by have:=HLS.out.2.2;omega) hrw;obtain⟨fl,hfl⟩:∃fl,fl=ls.flatten:=⟨_,rfl⟩;rw[←hfl]at hcc;have hfn:fl.length≤100000:=by rw[hfl];exact HLS.out.2.2
   have HFL:=Lib.hid hfl;have HCC:=Lib.hid hcc;clear hcc hfl;have HA:=Lib.hid (And.intro hia hba);clear hia hba hrw HOF;go_wp2_with fail
   with_reducible refine HCC.out.mono ?_
   rintro e wb ⟨Ab,cb,rfl,hob,hcb,hcm,hbb⟩;have hia:=HA.out.1;have hjn:=pj1 Aa 0 0 (ofs []) Ab fl.length cb fl wb (by omega) (Nat.le_refl _) (Nat.zero_le _) Stt.nil ((hia.row.below hbb).up hbb.size) (Row.own hob);have HJN:=Lib.hid hjn;have HB:=Lib.hid (az HA.out.2 hbb);clear hjn hia hob hcb hcm hbb HA HCC;go_wp2_with fail
   with_reducible refine HJN.out.mono ?_
   rintro e wc ⟨Ac,kc,rfl,hkc,hic,hbc⟩;have hsc:=HS.out.1.below (az HB.out hbc);have hfx:gv1 (XY X ⟨w3.heap.size,m,g,mm,L,ns',P,⟨none,0,0⟩,⟨none,0,0⟩,[]⟩) wc fun W=>Its 0 W Ac kc kc (joins (ofs []) fl):=fun W cW=>⟨(yj cW hic.row (Nat.le_refl _) (fun j _ a ha hm=>by
    have h1:=hic.low a ha;have h2:=HS.out.1.lt _ hm;have h3:=HB.out.size;omega)).up cW.size,hic.nc,hic.cm,fun _ _=>Nat.zero_le _⟩
   have hset:=dw3 hsc Ac kc kc (joins (ofs []) fl) hfx;have HC:=Lib.hid (And.intro hkc (az HB.out hbc));have HSET:=Lib.hid hset;clear hset hfx hsc hic hbc hkc HJN HB;go_wp2_with fail
   with_reducible refine HSET.out.mono ?_
   rintro e wd ⟨rfl,hsd,hcd⟩;have hrc:joins (ofs []) fl=joins [] ls.flatten:=by rw[←HFL.out];rfl
   rw[hrc]at hsd;have hsw:=pq3 hsd HF.out HSW.out.1 HSW.out.2.2 HSW.out.2.1;have hin:∀x∈XY X ⟨w3.heap.size,m,g,mm,L,ns',P,⟨none,0,0⟩,⟨none,0,0⟩,[]⟩,x∈X.foot∨w.heap.size≤x:=fun x hx=>by
    rcases List.mem_append.1 hx with q|q
    ·exact .inl q
    ·right
     have hl:=HS.out.2.2.2.1
     rcases Yw.aj.1 q with q|q|q|q|q
     ·have q:x=w3.heap.size:=q
      have:=HLIM.out.1;omega
     ·have q:x=m:=q
      omega
     ·have q:x=g:=q
      have:=HLIM.out;omega
     ·have q:x=mm:=q
      rw[q];exact(hl _ List.mem_cons_self).1
     ·exact(hl _ (List.mem_cons_of_mem _ q)).1
   have hbd:Chg X.foot w wd:=((Chg.of_below HS.out.2.2.1 X.foot).trans (Chg.of_below HC.out.2 []) (fun x hx=>by cases hx)).trans hcd hin;have HD:=Lib.hid (And.intro hbd hin);have HWS:=Lib.hid hsw;have s7:=hsd.box.cell 0;clear hsw hbd hsd hcd HSET HC hin s7;go_wp2_with fail
   with_reducible refine HWS.out.mono ?_
   rintro e we ⟨rfl,X',e1,h1,c1,f1⟩;have hfin:tz1 X w (St.sweep M S.list S) (St.old M t.length ls) (.returned (.tuple #[.pointer (some ⟨w3.heap.size,0,none⟩),.int .i64 0])) we:=by
    refine⟨X',_,rfl,e1,h1,HD.out.1.trans c1 HD.out.2,fun x hx=>?_⟩
    rcases f1 x hx with q|q
    ·exact HD.out.2 x q
    ·exact .inr (Nat.le_trans HD.out.1.size q)
   have HZ:=Lib.hid hfin;clear hfin h1 c1 f1 HD HWS;go_wp2;refine bodyPost_ret (v:=.tuple #[.pointer (some ⟨w3.heap.size,0,none⟩),.int .i64 0]) (by simp[results,go_sem]) rfl HZ.out
end
section
open Go
open Mw (kCur headB)
namespace Sd
theorem pz4 (n:Nat):kept n (n:Int)=n:=by
 unfold kept;rw[Int.emod_eq_of_lt (by omega) (by omega)];simp
theorem yy2:∀(L:List Nat) (fs:List (List UInt8×Nat)),(∀f∈fs,f.2≤f.1.length)→(cutFiles L fs []).1.map (·.1)=fs.map (·.1)∧(cutFiles L fs []).2=[]
 |[],fs,_=>⟨rfl,rfl⟩
 |i::r,fs,h=>by
  have hg:(fs.getD i ([],0)).2≤(fs.getD i ([],0)).1.length:=by
   rw[List.getD_eq_getElem?_getD]
   cases e:fs[i]? with
   |none=>exact Nat.le_refl _
   |some f=>exact h f (List.mem_of_getElem? e)
  obtain⟨f,hf⟩:∃f,f=fs.getD i ([],0):=⟨_,rfl⟩;rw[←hf]at hg;unfold cutFiles;rw[←hf]
  by_cases h0:f.1.length - f.2=0
  ·simp only[h0,if_true]
   exact yy2 r fs h
  ·simp only[h0,if_false]
   have hi:i < fs.length:=by
    apply Classical.byContradiction;intro hn;rw[List.getD_eq_getElem?_getD,List.getElem?_eq_none (by omega)]at hf;subst hf;exact h0 rfl
   have hx:next [] ((f.1.length - f.2:Nat):Int)=(((f.1.length - f.2:Nat):Int),[]):=rfl;rw[hx];simp only[pz4];have ht:f.1.take (f.2+(f.1.length - f.2))=f.1:=List.take_of_length_le (by omega);rw[ht];have hfi:fs[i]=f:=by
    rw[hf,List.getD_eq_getElem?_getD,List.getElem?_eq_getElem hi];rfl
   obtain⟨a,b⟩:=yy2 r (fs.set i (f.1,f.1.length)) (fun g hg=>by
    rcases List.mem_or_eq_of_mem_set hg with h1|h1
    ·exact h g h1
    ·rw[h1];exact Nat.le_refl _)
   refine⟨?_,b⟩;rw[a,List.map_set];simp only;rw[←hfi,←List.getElem_map (f:=fun p:List UInt8×Nat=>p.1) (h:=by simpa using hi),List.set_getElem_self]
theorem ny2:∀(us:List Tn) (m:Nm),doTurns us m []=us.foldl (fun m u=>u.go m) m
 |[],_=>rfl
 |u::r,m=>by
  have hx:next [] 0=(0,[]):=rfl;unfold doTurns;rw[hx];simp only[Int.zero_emod,if_true,List.foldl_cons];exact ny2 r _
end Sd
theorem Calm.xk {S:Sd} (h:Calm S) (hi:S.co.In) (hm:S.co.most≤60):Calm (S.xk [])∧cont (S.xk [])=cont S∧(S.xk []).quota=S.quota∧(S.xk []).co.In∧(S.xk []).co.most≤60:=by
 have hw:=h.wf;have hf:∀f∈S.files,f.2≤f.1.length:=fun f hm=>by
  obtain⟨i,hi,rfl⟩:=List.getElem_of_mem hm;exact(hw.file i hi).1
 obtain⟨a,b⟩:=Sd.yy2 S.led S.files hf;have hn:(S.xk []).names=S.names:=by
  show Sd.doTurns S.turns S.lasted (Sd.cutFiles S.led S.files []).2=_
  rw[b,Sd.ny2];exact hi.whole.symm
 have hc:=Sd.dz3 hw hi [];refine⟨⟨Sd.gq3 hw hi (by omega) [],rfl,rfl,rfl,?_⟩,?_,rfl,hc.in_ hi,Nat.le_trans (hc.zw3 hi).1 hm⟩
 ·rw[hn]
  exact h.inj
 ·funext s
  unfold cont;rw[hn];have e:∀(l:List (List UInt8×Nat)) i,(l.getD i ([],0)).1=(l.map (·.1)).getD i []:=fun l i=>by
   rw[List.getD_eq_getElem?_getD,List.getD_eq_getElem?_getD,List.getElem?_map]
   cases l[i]?<;>rfl
  congr 1
  funext i
  rw[e,e];show ((Sd.cutFiles S.led S.files []).1.map _).getD i _=_
  rw[a]
theorem Calm.hale {S:Sd} (h:Calm S):S.ct.hale:=⟨h.dead,h.stop,h.fail⟩
theorem Calm.now {S:Sd} (h:Calm S) {s t:List UInt8} (hc:cont S s=some t):∃l,S.co.Now s t l:=by
 obtain⟨i,hg,hf⟩:=Calm.fq2 hc;have hi:=h.wf.names _ (Nm.get_mem hg);simp only at hi;rw[List.getD_eq_getElem?_getD,List.getElem?_eq_getElem hi]at hf;exact⟨S.files[i].2,i,hg,by
  show S.files[i]?=_
  rw[List.getElem?_eq_getElem hi];exact congrArg some (Prod.ext hf rfl)⟩
theorem Calm.sw3 {S:Sd} (h:Calm S) (hi:S.co.In) {s x:List UInt8} (hs:Sd.named s=true) (hc:cont S s=some x) (b:List UInt8) (h1:x.length+b.length≤250000) (h2:S.used+b.length≤S.quota):(S.append s b).1.co.In∧(S.append s b).1.co.most=S.co.most:=by
 obtain⟨l,i,hg,hf⟩:=h.now hc;have:=(Sd.rk2 hs hg hf (b:=b) h1 h2).2.2;rw[h.hale.call,if_pos rfl]at this;rw[this];exact⟨hi.jy _ _,rfl⟩
theorem Calm.zv2 {S:Sd} (h:Calm S) (hi:S.co.In) {s x:List UInt8} (hs:Sd.named s=true) (hc:cont S s=some x):(S.sync s).1.co.In∧(S.sync s).1.co.most=S.co.most:=by
 obtain⟨l,i,hg,hf⟩:=h.now hc;have:=(Sd.bw3 hs hg hf).2.2;rw[h.hale.call,if_pos rfl]at this;rw[this];exact⟨hi.jy _ _,rfl⟩
theorem Lg.yk2 (ls:List (List It)) (h:∀l∈ls,l≠[]∧l.length≤1000∧∀x∈l,x.ok=true∧x.fit):Lg.replay (Lg.text ls)=(ls,(Lg.text ls).length,0):=by
 have hb:∀b∈ls.map It.bytes,b.length≤60000:=fun b hb=>by
  obtain⟨l,hl,rfl⟩:=List.mem_map.1 hb;have:=It.cz1 l;have:=(h l hl).2.1;omega
 have hs:=Fr.oz2 1 (Nat.le_refl _) (by omega) (ls.map It.bytes) hb;unfold Lg.replay;rw[show Lg.text ls=Fr.all 1 (ls.map It.bytes) from rfl,hs];simp only;rw[if_neg (by simp)];have hz:(List.replicate (ls.map It.bytes).length 1).zip (ls.map It.bytes)=ls.map fun l=>((1:Nat),It.bytes l):=by
  rw[List.length_map];clear hs hb h
  induction ls with
  |nil=>rfl
  |cons a r ih=>rw[List.length_cons,List.replicate_succ,List.map_cons,List.zip_cons_cons,ih,List.map_cons]
 rw[hz];have hrd:∀l∈ls,It.read (It.bytes l)=(l,0):=fun l hl=>It.qz1 (fun y hy=>(h l hl).2.2 y hy) (by have:=(h l hl).2.1;omega);rw[if_pos (by
  rw[List.all_eq_true];intro p hp;obtain⟨l,hl,rfl⟩:=List.mem_map.1 hp;simp only[Lg.good1,hrd l hl];simp[(h l hl).1])]
 refine Prod.ext ?_ rfl;show Lg.rows _=ls
 unfold Lg.rows;rw[List.map_map]
 conv=>rhs;rw[←List.map_id ls]
 exact List.map_congr_left fun l hl=>by simp[hrd l hl]
namespace Nd
variable {q:Int} {S S':Sd} {V V':Sv} {c d:Nat} {bs:List (List It)} {ts:List Ed}
structure NO (S:Sd) (V:Sv) (bs:List (List It)) (ts:List Ed):Prop where
 in_:S.co.In
 most:S.co.most≤60
 log:cont S St.jk=some (Lg.text bs)
 bat:∀l∈bs,l≠[]∧l.length≤1000∧∀x∈l,x.ok=true∧x.fit
 st:V.st=joins [] bs.flatten
 cur:cont S kCur=some (headB 1)
 man:cont S (Mw.man 1)=some (Ed.text ts)
 may:∀e∈ts,e.may=true
 ne:ts≠[]
 run:Vw.none_.run ts=some V.M.v
 count:V.M.count=ts.length
 lg:V.M.v.log=1
 load:S.load≤1000
theorem NO.xk (h:NO S V bs ts) (hc:Calm S):NO (S.xk []) V bs ts:=by
 obtain⟨_,a,_,b,e⟩:=hc.xk h.in_ h.most;exact⟨b,e,by rw[a];exact h.log,h.bat,h.st,by rw[a];exact h.cur,by rw[a];exact h.man,h.may,h.ne,h.run,h.count,h.lg,Nat.le_trans (Sd.py3 hc.wf []) h.load⟩
theorem NS.xk (h:NS q S V c d) (ho:NO S V bs ts):NS q (S.xk []) V c d:=by
 obtain⟨a,b,e,_⟩:=h.calm.xk ho.in_ ho.most;exact⟨a,by rw[e,h.quota],h.only,h.nm,by rw[b];exact h.log,by rw[b];exact h.man,⟨by rw[b];exact h.small.names,by rw[b];exact h.small.len⟩,h.sz,h.ct,h.mem,h.tabs,h.st,h.name,h.br,h.ok,h.files,h.count⟩
theorem NO.look (h:NO S V bs ts) (hs:NS q S V c d) (hl:ts.length≤30):Gw.look S=(some (V.M,false),0):=by
 obtain⟨l1,n1⟩:=hs.calm.now h.cur;obtain⟨l2,n2⟩:=hs.calm.now h.man;have hv:Vw.views (Ed.text ts)=some (V.M.v,ts.length,(Ed.text ts).length):=by
  rw[Vw.nz3 ts h.may h.ne,h.run];rfl
 have:=ez4 hs.calm.dead (Nat.le_refl 1) (by omega) n1 n2 hv;rw[this];have hM:V.M=⟨Mw.man 1,V.M.v,ts.length,false⟩:=by
  have h1:=hs.name;have h2:=hs.br;have h3:=h.count
  cases hM:V.M with
  |mk nm v ct br=>
   rw[hM]at h1 h2 h3;simp only at h1 h2 h3;subst h1 h2 h3;rfl
 rw[hM];simp;omega
theorem NO.sync (h:NO S V bs ts) (hs:NS q S V c d) (e:St.sync S V=(S',V',0)):NO S' V' bs ts:=by
 unfold St.sync at e;rw[if_neg (by rw[hs.only];simp),hs.nm]at e;obtain⟨a1,a2,a3,a4⟩:=hs.calm.sync (s:=St.jk) (by decide+kernel) h.log;rw[if_pos a1]at e;obtain⟨b1,b2⟩:=hs.calm.zv2 h.in_ (s:=St.jk) (by decide+kernel) h.log;simp only[Prod.mk.injEq,and_true]at e;obtain⟨rfl,rfl⟩:=e;exact⟨b1,by rw[b2];exact h.most,by rw[a3];exact h.log,h.bat,h.st,by rw[a3];exact h.cur,by rw[a3];exact h.man,h.may,h.ne,h.run,h.count,h.lg,by rw[Sd.jy1];exact h.load⟩
theorem NS.saved (h:NS q S V c d) (hq:500000≤q) (hd:d+2012≤70000) {m:Mt} (hm:St.xy1 m (St.yx V)) (x:Ed) (hx:x=⟨[],[],0,m.floor,m.cert,m.at_,m.lease⟩):x.may=true∧V.M.v.app x=some { V.M.v with floor:=m.floor,cert:=m.cert,at_:=m.at_,lease:=m.lease }∧∃t,cont S (Mw.man 1)=some t∧t.length+x.rec_.length≤250000∧S.used+x.rec_.length≤S.quota∧
  Gw.save S V.M x=(((S.append (Mw.man 1) x.rec_).1.sync (Mw.man 1)).1,{ V.M with count:=V.M.count+1,v:={ V.M.v with floor:=m.floor,cert:=m.cert,at_:=m.at_,lease:=m.lease } },0):=by
 have hap:V.M.v.app x=some { V.M.v with floor:=m.floor,cert:=m.cert,at_:=m.at_,lease:=m.lease }:=by rw[hx];exact ek4 h.ok hm
 obtain⟨⟨m1,n1⟩,⟨m2,n2⟩,⟨m3,n5⟩,⟨m4,n6⟩⟩:=hm;have he:x.may=true:=by
  rw[hx];simp[Ed.may,ty1];omega
 have hr:=Ed.rq1 he;obtain⟨t2,ht2,hd0⟩:=h.man;obtain⟨ln,lu⟩:=h.calm.zy h.small;have hnm:Sd.named (Mw.man 1)=true:=by decide+kernel
 have hus:S.used+x.rec_.length≤S.quota:=by have:=h.quota;simp at lu;omega
 obtain⟨a1,a2,a3,a4⟩:=h.calm.append (s:=Mw.man 1) hnm ht2 x.rec_ (by omega) hus;obtain⟨b1,b2,b3,b4⟩:=a2.sync (s:=Mw.man 1) hnm (x:=t2++x.rec_) (by rw[a3,upd,if_pos rfl]);refine⟨he,hap,t2,ht2,by omega,hus,?_⟩;unfold Gw.save;rw[if_neg (by rw[h.br];simp),if_neg (by rw[he];simp),hap];simp only;unfold Gw.put;rw[h.name,if_neg (by simp[a1]),if_neg (by simp[b1])]
theorem NO.setm (h:NO S V bs ts) (hs:NS q S V c d) (hq:500000≤q) (hd:d+2012≤70000) {m:Mt} (hm:St.xy1 m (St.yx V)) (e:St.setMeta S V m=(S',V',0)):NO S' V' bs (ts++[⟨[],[],0,m.floor,m.cert,m.at_,m.lease⟩]):=by
 obtain⟨x,hx⟩:∃x:Ed,x=⟨[],[],0,m.floor,m.cert,m.at_,m.lease⟩:=⟨_,rfl⟩;obtain⟨he,hap,t,ht,h1,h2,hsv⟩:=hs.saved hq hd hm x hx;have htx:t=Ed.text ts:=by
  have:=h.man;rw[ht]at this;exact Option.some.inj this
 subst htx;have hnm:Sd.named (Mw.man 1)=true:=by decide+kernel
 have n3:St.jk≠Mw.man 1:=by decide+kernel
 have n4:kCur≠Mw.man 1:=by decide+kernel
 obtain⟨a1,a2,a3,a4⟩:=hs.calm.append (s:=Mw.man 1) hnm ht x.rec_ h1 h2;obtain⟨b1,b2⟩:=hs.calm.sw3 h.in_ (s:=Mw.man 1) hnm ht x.rec_ h1 h2;have hc2:cont (S.append (Mw.man 1) x.rec_).1 (Mw.man 1)=some (Ed.text ts++x.rec_):=by rw[a3,upd,if_pos rfl]
 obtain⟨d1,d2,d3,d4⟩:=a2.sync (s:=Mw.man 1) hnm hc2;obtain⟨f1,f2⟩:=a2.zv2 b1 (s:=Mw.man 1) hnm hc2;unfold St.setMeta St.saved at e;rw[if_neg (by rw[hs.only];simp),←hx]at e;simp only[hsv,Prod.mk.injEq,and_true]at e;obtain⟨rfl,rfl⟩:=e;rw[←hx];refine⟨f1,by rw[f2,b2];exact h.most,by rw[d3,a3,upd,if_neg n3];exact h.log,h.bat,h.st,by rw[d3,a3,upd,if_neg n4];exact h.cur,by rw[d3,hc2,Ed.uw3],fun y hy=>?_,by simp,?_,?_,h.lg,by rw[Sd.jy1,Sd.yq1];exact h.load⟩
 ·rcases List.mem_append.1 hy with hy|hy
  ·exact h.may y hy
  ·rw[List.mem_singleton.1 hy]
   exact he
 ·rw[Vw.mj4,h.run]
  exact hap
 ·show V.M.count+1=_
  rw[h.count];simp
theorem NO.dq5 {S2:Sd} (d2:Calm S2) (hi2:S2.co.In) (m2:S2.co.most=1) (t2:S2.co.total=0) (hq2:500000≤S2.quota) (hgm:S2.names.get (Mw.man 1)=none) (hc:cont S2 St.jk=some []) (hl2:S2.load≤10)
  (e:(if (Gw.rewrite S2 St.first (Mn.name Mn.kMan 1)).2.2≠0 then ((Gw.rewrite S2 St.first (Mn.name Mn.kMan 1)).1,none,(Gw.rewrite S2 St.first (Mn.name Mn.kMan 1)).2.2) else ((Gw.rewrite S2 St.first (Mn.name Mn.kMan 1)).1,some (⟨(Gw.rewrite S2 St.first (Mn.name Mn.kMan 1)).2.1,St.jk,0,0,[],[],[],false⟩:Sv),0))=(S,some v0,0)):NO S v0 [] [St.first.v.whole]:=by
 obtain⟨e1,e2,e3,e4,e5⟩:=Gw.dy4 (d:=S2) (M:=St.first) (k:=1) d2.hale (by decide) (Nat.le_refl 1) (by decide) hi2 (by omega) (by omega) hgm;rw[show Mn.name Mn.kMan 1=Mw.man 1 from rfl,e1]at e;simp only[ne_eq,not_true_eq_false,if_false,Prod.mk.injEq]at e;obtain⟨e,_⟩:=e;have hS:(Gw.rewrite S2 St.first (Mw.man 1)).1=S:=e;rw[hS]at e2 e3 e4 e5;have hcont:∀{s t:List UInt8} {l:Nat},S.co.Now s t l→cont S s=some t:=fun {s t l} ⟨i,hg,hf⟩=>by
  unfold cont;have hg':S.names.get s=some i:=hg;have hf':S.files[i]?=some (t,l):=hf;rw[hg',Option.map_some,List.getD_eq_getElem?_getD,hf'];rfl
 obtain⟨l0,n0⟩:=d2.now hc;have hnr:¬Mw.NR St.jk:=by
  unfold Mw.NR;decide+kernel
 exact⟨e3.in_,by have:=e3.most;omega,hcont (e3.now _ hnr _ _ n0),fun l hl=>(by cases hl),rfl,hcont e4.now,by rw[Ed.kw4];exact hcont e5.now,fun x hx=>by rw[List.mem_singleton.1 hx];exact Vw.kj1 (by decide),by simp,Vw.ay4 (by decide),rfl,rfl,by
  have:=Gw.tv2 d2.wf St.first (Mw.man 1)
  rw[←hS];omega⟩
theorem NO.born (h1:500000≤q) (h2:q≤1099511627776) (e:St.create (Sd.new q)=(S,some v0,0)):NO S v0 [] [St.first.v.whole]:=by
 have hi0:(Sd.new q).co.In:=⟨List.Pairwise.nil,List.Pairwise.nil,fun p hp=>(by cases hp),fun p hp=>(by cases hp),fun p hp=>(by cases hp),fun p hp=>(by cases hp),List.nodup_nil,fun i hi=>(by cases hi),rfl,fun u hu=>(by cases hu)⟩;have hc0:=Calm.new q h2;have hn1:Sd.named St.jk=true:=by decide+kernel
 obtain⟨a1,a2,a3,a4⟩:=hc0.create hn1 (by rw[Calm.mq1]) (by show (0:Nat) < 64;omega);have b:=(Sd.ty2 hn1 (d:=Sd.new q) rfl (by show (0:Nat) < 64;omega)).2.2;rw[hc0.hale.call,if_pos rfl]at b;have hi1:((Sd.new q).create St.jk).1.co.In:=by rw[b];exact hi0.create rfl
 have m1:((Sd.new q).create St.jk).1.co.most=1:=by rw[b,Co.aj2];rfl
 have t1:((Sd.new q).create St.jk).1.co.total=0:=by rw[b,Co.sy1];rfl
 have hc1:cont ((Sd.new q).create St.jk).1 St.jk=some []:=by rw[a3,upd,if_pos rfl]
 obtain⟨d1,d2,d3,d4⟩:=a2.sync hn1 hc1;obtain⟨hi2,m2⟩:=a2.zv2 hi1 hn1 hc1;have t2:(((Sd.new q).create St.jk).1.sync St.jk).1.co.total=0:=by
  obtain⟨l,i,hg,hf⟩:=a2.now hc1;have:=(Sd.bw3 hn1 hg hf).2.2;rw[a2.hale.call,if_pos rfl]at this;rw[this];have:=Co.ov1 (c:=((Sd.new q).create St.jk).1.co) (f:=([],0)) hf;simp only[List.length_nil]at this ⊢;omega
 have hl:(Sd.new q).list=[]:=by simp[Sd.list,Sd.new]
 unfold St.create at e;rw[hl]at e;simp only[St.wipe,a1,d1,ne_eq,not_true_eq_false,if_false]at e;have hgm:(((Sd.new q).create St.jk).1.sync St.jk).1.names.get (Mw.man 1)=none:=Calm.get_none (by rw[d3,a3,upd,if_neg (by decide+kernel),Calm.mq1]);have hq2:((((Sd.new q).create St.jk).1.sync St.jk).1.quota:Int)=q:=by rw[d4,a4];simp[Sd.new];omega
 exact NO.dq5 d2 hi2 (by rw[m2];exact m1) t2 (by omega) hgm (by rw[d3];exact hc1) (by
  have h1:=Sd.nk1 (Sd.new q) St.jk;have h2:(Sd.new q).load=0:=rfl;rw[Sd.jy1];omega) e
theorem kz2:∀ls:List (List It),ls.length+ls.flatten.length≤(Lg.text ls).length
 |[]=>by simp
 |l::r=>by
  have h:=kz2 r;have h1:∀l:List It,l.length≤(l.flatMap It.one).length:=fun l=>by
   induction l with
   |nil=>simp
   |cons a l ih=>simp only[List.flatMap_cons,List.length_append,List.length_cons,It.one];omega
  have h2:=h1 l;have e:Lg.text (l::r)=Lg.batch l++Lg.text r:=by simp[Lg.text,Fr.all,Lg.batch]
  rw[e,List.length_append,List.length_cons,List.flatten_cons,List.length_append];have h3:(Lg.batch l).length=(It.bytes l).length+12:=Fr.qw 1 _;have h4:(It.bytes l).length=(Pn.put l.length).length+(l.flatMap It.one).length:=by simp[It.bytes]
  omega
theorem NO.own (h:NO S V bs ts) (hs:NS q S V c d):∀s∈S.list,St.keeps V.M s=true:=fun s hm=>by
 obtain⟨x,hx⟩:=hs.calm.py1.1 hm;have:=hs.small.names s x hx;unfold St.keeps;rw[hs.name,h.lg];simp only[List.mem_cons,List.not_mem_nil,or_false]at this
 rcases this with rfl|rfl|rfl
 ·decide+kernel
 ·simp
 ·simp
theorem gv3 (M:Gs):∀(l:List (List UInt8)) (S:Sd),(∀s∈l,St.keeps M s=true)→St.sweep M l S=S
 |[],_,_=>rfl
 |s::r,S,h=>by
  unfold St.sweep;rw[h s List.mem_cons_self];simp only[Bool.not_true,Bool.and_false,Bool.false_eq_true,if_false];exact gv3 M r S (fun x hx=>h x (List.mem_cons_of_mem _ hx))
theorem NO.dz5 (h:NO S V bs ts) (hs:NS q S V c d):St.uy2 S=false:=by
 unfold St.uy2;have:(S.list.any fun s=>St.aq1 s&&!St.isNone S s)=true:=by
  rw[List.any_eq_true];refine⟨kCur,hs.calm.py1.2 ⟨_,h.cur⟩,?_⟩;have h1:St.aq1 kCur=true:=rfl;have h2:St.isNone S kCur=false:=by
   unfold St.isNone;have e1:(kCur==Mw.gq)=false:=by decide
   have e2:(kCur==St.jx3)=false:=by decide
   have e3:(kCur==St.jk)=false:=by decide
   rw[e1,e2,e3];rfl
  rw[h1,h2];rfl
 rw[this];rfl
theorem NS.reopen (hs:NS q S V c d) (h:NO S V bs ts):NS q S (St.old V.M (Lg.text bs).length bs) c d∧NO S (St.old V.M (Lg.text bs).length bs) bs ts:=by
 obtain⟨t,ht,hc⟩:=hs.log;have e:t=Lg.text bs:=by
  have:=h.log;rw[ht]at this;exact Option.some.inj this
 subst e;have h1:=kz2 bs;have h2:=oy2 bs;refine⟨⟨hs.calm,hs.quota,rfl,?_,hs.log,hs.man,hs.small,hc,?_,?_,rfl,(vj1 _ Stt.nil).1,hs.name,hs.br,hs.ok,hs.files,hs.count⟩,⟨h.in_,h.most,h.log,h.bat,rfl,h.cur,h.man,h.may,h.ne,h.run,h.count,h.lg,h.load⟩⟩
 ·show Mn.name Mn.kLog V.M.v.log=_
  rw[h.lg];decide+kernel
 ·show bs.length≤c
  omega
 ·show (St.az2 bs).length≤c
  omega
end Nd
end
end Go.Proofs.YthjdpplgfdihoaaGreatDoor
