/- Texts StateG, StateH, StateI, StateJ, StateK, StateL, RefI, RefJ, RefN, SkipF, ItemK, HashA, AtomI in one. No conditions. -/
import Derived.Test.YthjdpplgfdihoaaGreatDoorBunAA
import Derived.Test.YthjdpplgfdihoaaGreatDoorBunAH
import Derived.Test.YthjdpplgfdihoaaGreatDoorBunAE
import Derived.Test.YthjdpplgfdihoaaGreatDoorRows
import Derived.BigQuiet
import Derived.Lib.Hide
import Derived.WalkKit
import Derived.WalkSpells
import Derived.WalkLawsBesides
import Derived.Deep.RegionWith
import Derived.Lib.MinMax
import Derived.Laws.StructEq
import Derived.Test.YthjdpplgfdihoaaGreatDoorBunAC
import Derived.Tactics
import Derived.Tactics2
import Derived.Laws.Pointers
import Derived.Laws.LoneSync

set_option linter.unusedSimpArgs false
set_option linter.unusedVariables false
set_option maxRecDepth 100000
set_option maxHeartbeats 16000000
namespace Go.Proofs.YthjdpplgfdihoaaGreatDoor
section
open Go Go.RowKit Go.Lib
theorem cz5 {base g n cap k:Nat} {l:List It} {w:World} (ho:w.ownsRow base 36 5 (.slice (some ⟨g,0,none⟩) n cap) n (itc l)) (hl:k < l.length):∀t v,t < 5→(l[k]).cells[t]?=some v→w.cell? ⟨g,k *5+t,none⟩=some v:=by
 intro t v ht hv;have hr:=Row.own ho;have:=hr.cells (k *5+t) v ((cw3 l k t hl ht).trans hv)
 rwa [Addr.add_lit,Nat.zero_add]at this
def lk2 (base:Nat) (w:World) (R:List It) (e:Ending) (w':World):Prop:=∃k A' c',e=.returned (.slice A' k c')∧k=R.length∧w'.ownsRow base 36 5 (.slice A' k c') k (itc R)∧Below base w w'
theorem iq4 (base:Nat) (A:Option Addr) (n cap:Nat) (l:List It) (x:It) (w:World) (hn:n≤999999) (hbase:base≤w.heap.size) (hS:Stt l) (ho:w.ownsRow base 36 5 (.slice A n cap) n (itc l)):
  Calls Tryz.prog 175 #[.slice A n cap,x.val] w (lk2 base w (add l x)):=by
 have hln:l.length=n:=by have:=ho.1;rw[ik]at this;omega
 have hbV:=(Below.refl base w).alloc hbase (.cells #[.int .i64 x.s,.int .i64 x.k,.int .u64 (x.t:Int),.int .u64 (x.v:Int),.int .i64 x.x] 36);have hoV:=own_below ho ((Below.refl w.heap.size w).alloc (Nat.le_refl _) (.cells #[.int .i64 x.s,.int .i64 x.k,.int .u64 (x.t:Int),.int .u64 (x.v:Int),.int .i64 x.x] 36));have hbx:BoxO (w.alloc (.cells #[.int .i64 x.s,.int .i64 x.k,.int .u64 (x.t:Int),.int .u64 (x.v:Int),.int .i64 x.x] 36)) 36 w.heap.size x.cells:=BoxO.new w #[.int .i64 x.s,.int .i64 x.k,.int .u64 (x.t:Int),.int .u64 (x.v:Int),.int .i64 x.x] 36;have hne:(Value.slice A n cap).ownBlock≠some w.heap.size:=fun h=>by have:=(ho.lt _ h).2;omega
 obtain⟨g,hg⟩:∃g,g=w.heap.size:=⟨_,rfl⟩;obtain⟨V,hV⟩:∃V,V=w.alloc (.cells #[.int .i64 x.s,.int .i64 x.k,.int .u64 (x.t:Int),.int .u64 (x.v:Int),.int .i64 x.x] 36):=⟨_,rfl⟩;have hVs:base≤V.heap.size:=by rw[hV];simp;omega
 rw[←hg]at hbx hne;rw[←hV]at hbV hoV hbx;have hok:=fun W=>wq1 x W;have hhd:=fun W (hW:Below V.heap.size V W)=>cv2 A n cap l x W (by omega) hS.rises hS.ok (Row.own (own_below hoV hW));have hpl:=fun W (hW:Below V.heap.size V W)=>pv2 A n cap l x W (by omega) hS.rises (Row.own (own_below hoV hW));have hkx:∀w',Below V.heap.size V w'→w'.cell? ⟨g,0,none⟩=some (.int .i64 x.s)∧w'.cell? ⟨g,1,none⟩=some (.int .i64 x.k)∧w'.cell? ⟨g,2,none⟩=some (.int .u64 (x.t:Int))∧w'.cell? ⟨g,3,none⟩=some (.int .u64 (x.v:Int))∧w'.cell? ⟨g,4,none⟩=some (.int .i64 x.x):=fun w' hb=>by
  have hB:=hbx.below hb;exact⟨hB.cell 0,hB.cell 1,hB.cell 2,hB.cell 3,hB.cell 4⟩
 have hfd:=sx2 hS.rises x;have hls:=fv3 hS.rises x;have hat:=ux2 hS.rises x;have hof:=yv1 hS.rises x;have hrl0:=qj2 l x;obtain⟨R,hR⟩:∃R,R=add l x:=⟨_,rfl⟩;rw[←hR];unfold add at hR;unfold It.val at hok hhd hpl ⊢;generalize (l.any fun y=>y.same x)=b at *;generalize pos l x=r at *;generalize hq1:x.ok=o1 at *;generalize hq2:hidden l x=o2 at *;have hfin1:∀w',R=l→Below V.heap.size V w'→lk2 base w R (.returned (.slice A n cap)) w':=fun w' h hb=>by
  rw[h];exact⟨n,A,cap,rfl,hln.symm,own_below hoV hb,hbV.trans (hb.mono hVs)⟩
 have HOK:=Lib.hid hok;have HHD:=Lib.hid hhd;have HPL:=Lib.hid hpl;have HKX:=Lib.hid hkx;have HFD:=Lib.hid hfd;have HLS:=Lib.hid hls;have HAT:=Lib.hid hat;have HOF:=Lib.hid hof;have HR:=Lib.hid hR;have HF1:=Lib.hid hfin1;have HOV:=Lib.hid hoV;have HBX:=Lib.hid hbx;have HV:=Lib.hid hV;have HG:=Lib.hid hg;clear hok hhd hpl hkx hfd hls hat hof hR hfin1 hoV hbx hV hg hq1 hq2 ho;go_enter Tryz.func175,Tryz.ntmps175;go_wp2_with fail;rw[←HV.out,←HG.out];refine(HOK.out _).mono ?_;rintro e w1 ⟨rfl,hb1⟩;obtain⟨x0,x1,x2,x3,x4⟩:=HKX.out _ hb1
 cases o1 with
 |false=>
  have h1:=HF1.out w1 (by rw[HR.out];rfl) hb1;have H1:=Lib.hid h1;clear h1;go_wp2;go_ret;exact H1.out
 |true=>
  go_wp2_with fail;refine(HHD.out _ hb1).mono ?_;rintro e w2 ⟨rfl,hb2'⟩;have hb2:=az hb1 hb2';clear x0 x1 x2 x3 x4;obtain⟨x0,x1,x2,x3,x4⟩:=HKX.out _ hb2
  cases o2 with
  |true=>
   have h1:=HF1.out w2 (by rw[HR.out];rfl) hb2;have H1:=Lib.hid h1;clear h1;go_wp2;go_ret;exact H1.out
  |false=>
   go_wp2_with fail;refine(HPL.out _ hb2).mono ?_;rintro e w3 ⟨rfl,hb3'⟩;have hb3:=az hb2 hb3';clear x0 x1 x2 x3 x4 hb1 hb2' hb2 hb3' HOK HHD HPL;have hgV:=HBX.out.lt
   cases b with
   |true=>
    have hrl:r < l.length:=by
     rcases Nat.lt_or_ge r l.length with h|h
     ·exact h
     ·have:=HOF.out (by omega)
      cases this
    have hsm:=HAT.out hrl;obtain⟨hbt,hput⟩:=HFD.out hrl hsm
    rcases HOV.out.2 with ⟨_,h0⟩|⟨g0,cap',cur,hvv,hbg,_,hnc,_⟩
    ·omega
    injection hvv with hA _ hc;subst hA hc;have hq:=cz5 (own_below HOV.out hb3) hrl;have hwn:=fun W=>pz2 x l[r] W;clear hsm;generalize l[r]=y at *;have hkc:∀w',Below w3.heap.size w3 w'→(w'.cell? ⟨g,0,none⟩=some (.int .i64 x.s)∧w'.cell? ⟨g,1,none⟩=some (.int .i64 x.k)∧w'.cell? ⟨g,2,none⟩=some (.int .u64 (x.t:Int))∧w'.cell? ⟨g,3,none⟩=some (.int .u64 (x.v:Int))∧w'.cell? ⟨g,4,none⟩=some (.int .i64 x.x))∧w'.cell? ⟨g0,r *5,none⟩=some (.int .i64 y.s)∧w'.cell? ⟨g0,r *5+1,none⟩=some (.int .i64 y.k)∧w'.cell? ⟨g0,r *5+2,none⟩=some (.int .u64 (y.t:Int))∧w'.cell? ⟨g0,r *5+3,none⟩=some (.int .u64 (y.v:Int))∧w'.cell? ⟨g0,r *5+4,none⟩=some (.int .i64 y.x):=fun w' hb=>by
     have hlt:=HOV.out.lt g0 rfl;have hc:=fun j=>hb.cell (p:=⟨g0,j,none⟩) (Nat.lt_of_lt_of_le hlt.2 hb3.size);exact⟨HKX.out _ (hb3.trans (hb.mono hb3.size)),(hc _).trans (hq 0 _ (by omega) rfl),(hc _).trans (hq 1 _ (by omega) rfl),(hc _).trans (hq 2 _ (by omega) rfl),(hc _).trans (hq 3 _ (by omega) rfl),(hc _).trans (hq 4 _ (by omega) rfl)⟩
    unfold It.val at hwn;obtain⟨q,hqq⟩:∃q,q=x.wins y:=⟨_,rfl⟩;rw[←hqq]at hwn hbt;have KC:=Lib.hid hkc;have HW:=Lib.hid hwn;have HBT:=Lib.hid hbt;have HPT:=Lib.hid hput;have hrn:(r:Int) < (n:Int):=by omega
    clear hkc hwn hbt hput hqq hq HFD HLS HAT HOF;go_wp2_with fail;refine wp_region_held_drew (S:=fun w'=>Below w3.heap.size w3 w') rfl (ak (Below.refl _ _)) (fun hSw=>?_);refine wpT (i:=0) (v:=?vga0) ?hga0 hSw ?kga0
    case hga0=>(intro w hSw;(obtain⟨⟨c0,c1,c2,c3,c4⟩,d0,d1,d2,d3,d4⟩:=KC.out w hSw);go_simp;try (with_reducible rfl))
    go_simp;refine wpT (i:=1) (v:=?vga1) ?hga1 hSw ?kga1
    case hga1=>(intro w hSw;(obtain⟨⟨c0,c1,c2,c3,c4⟩,d0,d1,d2,d3,d4⟩:=KC.out w hSw);go_simp;try (with_reducible rfl))
    go_simp;refine wpT (i:=2) (v:=?vga2) ?hga2 hSw ?kga2
    case hga2=>(intro w hSw;(obtain⟨⟨c0,c1,c2,c3,c4⟩,d0,d1,d2,d3,d4⟩:=KC.out w hSw);go_simp;try (with_reducible rfl))
    go_simp;refine wpT (i:=3) (v:=?vga3) ?hga3 hSw ?kga3
    case hga3=>(intro w hSw;(obtain⟨⟨c0,c1,c2,c3,c4⟩,d0,d1,d2,d3,d4⟩:=KC.out w hSw);go_simp;try (with_reducible rfl))
    go_simp;refine wpT (i:=4) (v:=?vga4) ?hga4 hSw ?kga4
    case hga4=>(intro w hSw;(obtain⟨⟨c0,c1,c2,c3,c4⟩,d0,d1,d2,d3,d4⟩:=KC.out w hSw);go_simp;try (with_reducible rfl))
    go_simp;refine wpT (i:=5) (v:=?vga5) ?hga5 hSw ?kga5
    case hga5=>(intro w hSw;(obtain⟨⟨c0,c1,c2,c3,c4⟩,d0,d1,d2,d3,d4⟩:=KC.out w hSw);go_simp;try (with_reducible rfl))
    go_simp;refine wpT (i:=6) (v:=?vga6) ?hga6 hSw ?kga6
    case hga6=>(intro w hSw;(obtain⟨⟨c0,c1,c2,c3,c4⟩,d0,d1,d2,d3,d4⟩:=KC.out w hSw);go_simp;try (with_reducible rfl))
    go_simp;refine wpAnyH_ready (rs:=[7]) (by kernel_rfl) (by simp) ?_;refine AllReadyH.cons rfl (fun K hK=>?_) AllReadyH.nil;go_simp
    with_reducible refine(HW.out _).mono ?_
    rintro e w4 ⟨rfl,hb4⟩;go_simp;refine hK.out _ _ (hSw.trans (hb4.mono hSw.size)) (fun hSn=>?_);clear hK K hSw;have hSw:=hSn;clear hSn;go_simp;refine wpT (i:=8) (v:=?vga8) ?hga8 hSw ?kga8
    case hga8=>(intro w hSw;(obtain⟨⟨c0,c1,c2,c3,c4⟩,d0,d1,d2,d3,d4⟩:=KC.out w hSw);go_simp;try (with_reducible rfl))
    go_simp;refine wpT (i:=9) (v:=?vga9) ?hga9 hSw ?kga9
    case hga9=>(intro w hSw;(obtain⟨⟨c0,c1,c2,c3,c4⟩,d0,d1,d2,d3,d4⟩:=KC.out w hSw);go_simp;try (with_reducible rfl))
    go_simp;refine wpT (i:=10) (v:=?vga10) ?hga10 hSw ?kga10
    case hga10=>(intro w hSw;(obtain⟨⟨c0,c1,c2,c3,c4⟩,d0,d1,d2,d3,d4⟩:=KC.out w hSw);go_simp;try (with_reducible rfl))
    go_simp;refine wpAnyH_done (by kernel_rfl) ?_ _;have hb5:=hb3.trans (hSw.mono hb3.size);generalize w4=w5 at *;clear hb4
    cases q with
    |false=>
     have h1:=HF1.out w5 (by rw[HR.out,HBT.out];rfl) hb5;have H1:=Lib.hid h1;clear h1 hSw KC HW;go_wp2;go_ret;exact H1.out
    |true=>
     have hR2:R=(l.set r x).filter fun y=>!x.hides y:=by
      rw[HR.out,HBT.out,HPT.out];rfl
     obtain⟨⟨x0,x1,x2,x3,x4⟩,_⟩:=KC.out _ hSw;obtain⟨ho5,hsome,hfree⟩:=sx4 x (own_below HOV.out hb5) (show r < n by omega);obtain⟨u0,s0⟩:=hsome 0 (by omega);obtain⟨u1,s1⟩:=hsome 1 (by omega);obtain⟨u2,s2⟩:=hsome 2 (by omega);obtain⟨u3,s3⟩:=hsome 3 (by omega);obtain⟨u4,s4⟩:=hsome 4 (by omega);have z0:=hfree (r *5);have z1:=hfree (r *5+1);have z2:=hfree (r *5+2);have z3:=hfree (r *5+3);have z4:=hfree (r *5+4);rw[Nat.add_zero]at s0;have hC:=cq1 g0 x.cells (r *5) w5 w5 (Chg.refl _ _);have hbx6:=(HBX.out.below hb5).chg hC (by
      intro h;exact hne (by rw[List.mem_singleton.1 h];rfl))
     have hst:=gj2 x g base _ n cap _ _ (by omega) (Nat.le_trans (Nat.le_trans hVs hb5.size) hC.size) ho5 hbx6 hne;rw[←hR2]at hst;have hbz:Below base w (w5.setCells g0 (r *5) x.cells):=(hbV.trans (hb5.mono hVs)).trans (hC.below (Nat.le_trans hVs hb5.size) (by simpa using hbg));have HST:=Lib.hid (And.intro hst hbz);clear hst hbz hbx6 hC ho5 hsome hfree KC HW hSw hR2;go_wp2_with fail;refine HST.out.1.mono ?_;rintro e w7 ⟨k,A',c',rfl,hk,ho7,hb7⟩;have H7:lk2 base w R (.returned (.slice A' k c')) w7:=⟨k,A',c',rfl,hk,ho7,HST.out.2.trans hb7⟩;have H8:=Lib.hid H7;clear H7 ho7 hb7 hk;go_wp2;go_ret;exact H8.out
   |false=>
    obtain⟨hbt,hput⟩:=HLS.out rfl;have hR2:R=(l.take r++x::l.drop r).filter fun y=>!x.hides y:=by
     rw[HR.out,hbt,hput];rfl
    have HR2:=Lib.hid hR2;clear hbt hput hR2 HFD HLS HAT HOF HF1;go_wp2_with fail;refine wp_region_held_drew (S:=fun w'=>Below w3.heap.size w3 w') rfl (ak (Below.refl _ _)) (fun hSw=>?_);refine wpT (i:=0) (v:=?vgb0) ?hgb0 hSw ?kgb0
    case hgb0=>(intro w hSw;skip;go_simp;try (with_reducible rfl))
    go_simp;refine wpT (i:=1) (v:=?vgb1) ?hgb1 hSw ?kgb1
    case hgb1=>(intro w hSw;skip;go_simp;try (with_reducible rfl))
    go_simp;refine wpT0 (i:=2) hSw ?_;go_simp;refine wpT0 (i:=3) hSw ?_;go_simp;refine wpT0 (i:=4) hSw ?_;go_simp;refine wpT0 (i:=5) hSw ?_;go_simp;refine wpT0 (i:=6) hSw ?_;go_simp;refine wpT0 (i:=7) hSw ?_;go_simp;refine wpT0 (i:=8) hSw ?_;go_simp;refine wpT (i:=9) (v:=?vgb9) ?hgb9 hSw ?kgb9
    case hgb9=>(intro w hSw;skip;go_simp;try (with_reducible rfl))
    go_simp;refine wpT (i:=10) (v:=?vgb10) ?hgb10 hSw ?kgb10
    case hgb10=>(intro w hSw;skip;go_simp;try (with_reducible rfl))
    go_simp;refine wpAnyH_done (by kernel_rfl) ?_ _;have hb5:=hb3.trans (hSw.mono hb3.size);obtain⟨w5,hw5⟩:∃w5,w5=w3.drew:=⟨_,rfl⟩;rw[←hw5]at hb5 ⊢;clear hSw hw5;obtain⟨x0,x1,x2,x3,x4⟩:=HKX.out _ hb5;have ho5:=own_below HOV.out hb5;have hbA:=(Below.refl w5.heap.size w5).alloc (Nat.le_refl _) (.cells #[.int .i64 x.s,.int .i64 x.k,.int .u64 (x.t:Int),.int .u64 (x.v:Int),.int .i64 x.x] 36);have hb6:=az hb5 hbA;have ho6:=own_below ho5 hbA;have hvb:BoxO (w5.alloc (.cells #[.int .i64 x.s,.int .i64 x.k,.int .u64 (x.t:Int),.int .u64 (x.v:Int),.int .i64 x.x] 36)) 36 w5.heap.size x.cells:=BoxO.new w5 #[.int .i64 x.s,.int .i64 x.k,.int .u64 (x.t:Int),.int .u64 (x.v:Int),.int .i64 x.x] 36;have hA5:∀a,A=some a→w5.heap.size≠a.block:=fun a ha h=>by
     subst ha;have:=(ho5.lt a.block rfl).2;omega
    have hins:=oy3 base A n cap r l x w5.heap.size _ (by omega) (by omega) (Nat.le_trans hVs hb6.size) ho6 hvb hA5;have HINS:=Lib.hid hins;have HB6:=Lib.hid hb6;have HV6:=Lib.hid (hbV.trans (hb6.mono hVs));have HO6:=Lib.hid ho6;clear hins hvb hA5 ho6 ho5 hbA hb6 hb5;go_wp2_with fail;refine HINS.out.mono ?_;rintro e w7 ⟨A',c',rfl,ho7,hb7,hob⟩;have hbx7:BoxO w7 36 g x.cells:=(HBX.out.below HB6.out).chg hb7 (fun h=>hne (by simpa using h));have hne7:(Value.slice A' (n+1) c').ownBlock≠some g:=by
     rcases hob with h|h
     ·rw[h];exact hne
     ·rw[h]
      intro h2;injection h2 with h2;have:=HB6.out.size;omega
    have hb7':=hb7.below (B:=base) (Nat.le_trans hVs HB6.out.size) (fun b hb=>(HO6.out.lt b (by simpa using hb)).1);have hst:=gj2 x g base A' (n+1) c' _ w7 (by omega) (Nat.le_trans (Nat.le_trans hVs HB6.out.size) hb7.size) ho7 hbx7 hne7;rw[←HR2.out]at hst;have HST:=Lib.hid (And.intro hst (HV6.out.trans hb7'));clear hst hbx7 hne7 ho7 hob hb7 hb7' HINS;go_wp2_with fail;refine HST.out.1.mono ?_;rintro e w8 ⟨k,A2,c2,rfl,hk,ho8,hb8⟩;have H7:lk2 base w R (.returned (.slice A2 k c2)) w8:=⟨k,A2,c2,rfl,hk,ho8,HST.out.2.trans hb8⟩;have H8:=Lib.hid H7;clear H7 ho8 hb8 hk;go_wp2;go_ret;exact H8.out
end
section
open Go Go.RowKit Go.Lib
structure Its (B:Nat) (w:World) (A:Option Addr) (n c:Nat) (l:List It):Prop where
 row:Row w.heap.size w A n 5 (itc l)
 nc:n≤c
 cm:c≤maxLen
 low:∀a,A=some a→B≤a.block
theorem zy1 (A:Option Addr) (n c:Nat) (w:World) (hnc:n≤c):Calls Tryz.prog 164 #[.slice A n c] w fun e w'=>e=.returned (.slice A n n)∧w=w':=by
 have h1:(n:Int)≤(c:Int):=by omega
 go_enter Tryz.func164,Tryz.ntmps164;go_wp2;go_ret;exact⟨rfl,rfl⟩
theorem Stt.take {l:List It} (h:Stt l) (k:Nat):Stt (l.take k):=
 ⟨h.rises.sublist (List.take_sublist k l),fun y hy=>h.ok y (List.mem_of_mem_take hy),fun a ha b hb=>h.bare a (List.mem_of_mem_take ha) b (List.mem_of_mem_take hb)⟩
theorem Stt.vz3 {l:List It} (h:Stt l) {k:Nat} (hk:k < l.length):hidden (l.take k) l[k]=false:=by
 unfold hidden;rw[List.any_eq_false];intro t ht;simp[h.bare t (List.mem_of_mem_take ht) l[k] (List.getElem_mem hk)]
theorem vq4 (A:Option Addr) (n c:Nat) (l:List It) (w:World) (hn:n≤1000000) (hnc:n≤c) (hcm:c≤maxLen) (hS:Stt l) (hr:Row w.heap.size w A n 5 (itc l)):
  Calls Tryz.prog 174 #[.slice A n c] w fun e w'=>e=.returned (.bool true)∧Below w.heap.size w w':=by
 have hnn:=hr.bj1;have HS:=Lib.hid hS;unfold maxLen at hcm;clear hS;go_enter Tryz.func174,Tryz.ntmps174;go_wp2
 go_loopw [7] (fun i wr=>∃k:Nat,k≤n∧i=.int .i64 (k:Int)∧Below w.heap.size w wr) (fun i _=>n - (intOf i).toNat)
 case atStart=>exact⟨0,Nat.zero_le _,rfl,Below.refl _ _⟩
 case round=>
  obtain⟨k,hk,rfl,hbl⟩:=hrel
  by_cases hlt:k < n
  ·obtain⟨a,hl,rfl,hbk,c0,c1,c2,c3,c4⟩:=(hr.below hbl).it hlt
   have hko:=HS.out.ok _ (List.getElem_mem hl);have hba:=HS.out.vz3 hl;have hok:=fun W=>wq1 l[k] W;have hpre:=fun(W:World) (hW:Below wr.heap.size wr W)=>(((hr.below hbl).up hbl.size).below hW).up hW.size|>.pre (Nat.le_of_lt hlt)
   have hhd:=fun(W:World) (hW:Below wr.heap.size wr W)=>cv2 (some a) k c (l.take k) l[k] W (by omega) (HS.out.take k).rises (HS.out.take k).ok (by rw[pz1];exact hpre W hW);rw[hba]at hhd;simp only[hko]at hok;have hless:∀(j:Nat) (hj:j < l.length),j < k→It.less l[j] l[k]=true:=fun j hj hjk=>List.pairwise_iff_getElem.1 HS.out.rises j k hj hl hjk;generalize hxk:l[k]=x at *;have hW0:=(Below.refl wr.heap.size wr).alloc (Nat.le_refl _) (.cells #[.int .i64 x.s,.int .i64 x.k,.int .u64 (x.t:Int),.int .u64 (x.v:Int),.int .i64 x.x] 36);have hbx:BoxO (wr.alloc (.cells #[.int .i64 x.s,.int .i64 x.k,.int .u64 (x.t:Int),.int .u64 (x.v:Int),.int .i64 x.x] 36)) 36 wr.heap.size x.cells:=BoxO.new wr #[.int .i64 x.s,.int .i64 x.k,.int .u64 (x.t:Int),.int .u64 (x.v:Int),.int .i64 x.x] 36;obtain⟨W,hWe⟩:∃W,W=wr.alloc (.cells #[.int .i64 x.s,.int .i64 x.k,.int .u64 (x.t:Int),.int .u64 (x.v:Int),.int .i64 x.x] 36):=⟨_,rfl⟩;obtain⟨g,hg⟩:∃g,g=wr.heap.size:=⟨_,rfl⟩;rw[←hWe]at hW0 hbx;rw[←hg]at hbx;have hkx:∀w',Below W.heap.size W w'→w'.cell? ⟨g,0,none⟩=some (.int .i64 x.s)∧w'.cell? ⟨g,1,none⟩=some (.int .i64 x.k)∧w'.cell? ⟨g,2,none⟩=some (.int .u64 (x.t:Int))∧w'.cell? ⟨g,3,none⟩=some (.int .u64 (x.v:Int))∧w'.cell? ⟨g,4,none⟩=some (.int .i64 x.x):=fun w' hb=>by
    have hB:=hbx.below hb;exact⟨hB.cell 0,hB.cell 1,hB.cell 2,hB.cell 3,hB.cell 4⟩
   unfold It.val at hok hhd;have hbz:∀w',Below W.heap.size W w'→Below wr.heap.size wr w':=fun w' h=>az hW0 h;have HOK:=Lib.hid hok;have HHD:=Lib.hid hhd;have HW:=Lib.hid hWe;have HG:=Lib.hid hg;have hkn:(k:Int)≤(n:Int):=by omega
   have hkc:k≤c:=by omega
   have hkc2:(k:Int)≤(c:Int):=by omega
   have hwk:IntKind.i64.wrap (k:Int)=(k:Int):=IntWalk.i64_in _ (by omega)
   rcases Nat.eq_zero_or_pos k with h0|h0
   ·have hk0:((0:Int) < (k:Int))=False:=eq_false (by omega)
    have hk1:(0 < k)=False:=eq_false (by omega);clear h0;have KC:=Lib.hid hkx;clear hkx hok hhd hWe hg hko hba hpre hless hxk hbx hW0;go_wp2_with fail;rw[←HW.out,←HG.out];refine wp_region_held_drew (S:=fun w'=>Below W.heap.size W w') rfl (ak (Below.refl _ _)) (fun hSw=>?_);refine wpT (i:=0) (v:=?vka0) ?hka0 hSw ?kka0
    case hka0=>(intro w hSw;(obtain⟨x0,x1,x2,x3,x4⟩:=KC.out w hSw);go_simp;try (with_reducible rfl))
    go_simp;refine wpAnyH_ready (rs:=[1]) (by kernel_rfl) (by simp) ?_;refine AllReadyH.cons rfl (fun K hK=>?_) AllReadyH.nil;go_simp
    with_reducible refine(HOK.out _).mono ?_
    rintro e w1 ⟨rfl,hb1⟩;go_simp;refine hK.out _ _ (hSw.trans (hb1.mono hSw.size)) (fun hSn=>?_);clear hK K hSw;have hSw:=hSn;clear hSn;go_simp;refine wpT (i:=2) (v:=?vka2) ?hka2 hSw ?kka2
    case hka2=>(intro w hSw;(obtain⟨x0,x1,x2,x3,x4⟩:=KC.out w hSw);go_simp;try (with_reducible rfl))
    go_simp;refine wpT (i:=3) (v:=?vka3) ?hka3 hSw ?kka3
    case hka3=>(intro w hSw;(obtain⟨x0,x1,x2,x3,x4⟩:=KC.out w hSw);go_simp;try (with_reducible rfl))
    go_simp;refine wpT (i:=4) (v:=?vka4) ?hka4 hSw ?kka4
    case hka4=>(intro w hSw;(obtain⟨x0,x1,x2,x3,x4⟩:=KC.out w hSw);go_simp;try (with_reducible rfl))
    go_simp;refine wpT (i:=5) (v:=?vka5) ?hka5 hSw ?kka5
    case hka5=>(intro w hSw;(obtain⟨x0,x1,x2,x3,x4⟩:=KC.out w hSw);go_simp;try (with_reducible rfl))
    go_simp;refine wpT (i:=6) (v:=?vka6) ?hka6 hSw ?kka6
    case hka6=>(intro w hSw;(obtain⟨x0,x1,x2,x3,x4⟩:=KC.out w hSw);go_simp;try (with_reducible rfl))
    go_simp;refine wpT0 (i:=7) hSw ?_;go_simp;refine wpT0 (i:=8) hSw ?_;go_simp;refine wpT0 (i:=9) hSw ?_;go_simp;refine wpT0 (i:=10) hSw ?_;go_simp;refine wpT0 (i:=11) hSw ?_;go_simp;refine wpT0 (i:=12) hSw ?_;go_simp;refine wpT0 (i:=13) hSw ?_;go_simp;refine wpT0 (i:=14) hSw ?_;go_simp;refine wpT (i:=15) (v:=?vka15) ?hka15 hSw ?kka15
    case hka15=>(intro w hSw;(obtain⟨x0,x1,x2,x3,x4⟩:=KC.out w hSw);go_simp;try (with_reducible rfl))
    go_simp;refine wpT (i:=16) (v:=?vka16) ?hka16 hSw ?kka16
    case hka16=>(intro w hSw;(obtain⟨x0,x1,x2,x3,x4⟩:=KC.out w hSw);go_simp;try (with_reducible rfl))
    go_simp;refine wpT (i:=17) (v:=?vka17) ?hka17 hSw ?kka17
    case hka17=>(intro w hSw;(obtain⟨x0,x1,x2,x3,x4⟩:=KC.out w hSw);go_simp;try (with_reducible rfl))
    go_simp;refine wpT (i:=18) (v:=?vka18) ?hka18 hSw ?kka18
    case hka18=>(intro w hSw;(obtain⟨x0,x1,x2,x3,x4⟩:=KC.out w hSw);go_simp;try (with_reducible rfl))
    go_simp;refine wpT (i:=19) (v:=?vka19) ?hka19 hSw ?kka19
    case hka19=>(intro w hSw;(obtain⟨x0,x1,x2,x3,x4⟩:=KC.out w hSw);go_simp;try (with_reducible rfl))
    go_simp;refine wpT (i:=20) (v:=?vka20) ?hka20 hSw ?kka20
    case hka20=>(intro w hSw;(obtain⟨x0,x1,x2,x3,x4⟩:=KC.out w hSw);go_simp;try (with_reducible rfl))
    go_simp;refine wpT (i:=21) (v:=?vka21) ?hka21 hSw ?kka21
    case hka21=>(intro w hSw;(obtain⟨x0,x1,x2,x3,x4⟩:=KC.out w hSw);go_simp;try (with_reducible rfl))
    go_simp;refine wpAnyH_ready (rs:=[22]) (by kernel_rfl) (by simp) ?_;refine AllReadyH.cons rfl (fun K hK=>?_) AllReadyH.nil;go_simp
    with_reducible refine(HHD.out _ (hbz _ hSw)).mono ?_
    rintro e w2 ⟨rfl,hb2⟩;go_simp;refine hK.out _ _ (hSw.trans (hb2.mono hSw.size)) (fun hSn=>?_);clear hK K hSw;have hSw:=hSn;clear hSn;go_simp;refine wpT (i:=23) (v:=?vka23) ?hka23 hSw ?kka23
    case hka23=>(intro w hSw;(obtain⟨x0,x1,x2,x3,x4⟩:=KC.out w hSw);go_simp;try (with_reducible rfl))
    go_simp;refine wpAnyH_done (by kernel_rfl) ?_ _;have hby:=az hbl (hbz _ hSw);clear hSw KC HOK HHD;go_wp2;go_roundw
    case rel=>exact⟨k+1,by omega,by go_num,hby⟩
    case measure=>simp[intOf];omega
   ·obtain⟨j,hj⟩:∃j,k=j+1:=⟨k - 1,by omega⟩
    obtain⟨a2,hl2,ea,_,hd⟩:=(hr.below hbl).it (k:=j) (by omega);injection ea with ea;subst ea;have hls:=fun W=>kk1 l[j] x W;rw[hless j hl2 (by omega)]at hls;generalize l[j]=y at *;unfold It.val at hls;have hkc:∀w',Below W.heap.size W w'→(w'.cell? ⟨g,0,none⟩=some (.int .i64 x.s)∧w'.cell? ⟨g,1,none⟩=some (.int .i64 x.k)∧w'.cell? ⟨g,2,none⟩=some (.int .u64 (x.t:Int))∧w'.cell? ⟨g,3,none⟩=some (.int .u64 (x.v:Int))∧w'.cell? ⟨g,4,none⟩=some (.int .i64 x.x))∧w'.cell? (a.add (j *5))=some (.int .i64 y.s)∧w'.cell? ⟨(a.add (j *5)).block,(a.add (j *5)).off+1,none⟩=some (.int .i64 y.k)∧w'.cell? ⟨(a.add (j *5)).block,(a.add (j *5)).off+2,none⟩=some (.int .u64 (y.t:Int))∧w'.cell? ⟨(a.add (j *5)).block,(a.add (j *5)).off+3,none⟩=some (.int .u64 (y.v:Int))∧w'.cell? ⟨(a.add (j *5)).block,(a.add (j *5)).off+4,none⟩=some (.int .i64 y.x):=fun w' hb=>by
     have h2:=hd.below (B:=wr.heap.size) (w':=w') (Nat.lt_of_lt_of_le hbk hbl.size) (hbz _ hb);exact⟨hkx w' hb,h2.c0,h2.c1,h2.c2,h2.c3,h2.c4⟩
    have hk0:(0:Int) < (k:Int):=by omega
    have hk1:0 < k:=h0;have hkj:(k:Int) - 1=(j:Int):=by omega
    have hwj:IntKind.i64.wrap (j:Int)=(j:Int):=IntWalk.i64_in _ (by omega);have hw1:IntKind.i64.wrap ((k:Int) - 1)=(j:Int):=by rw[hkj];exact hwj
    have hjn:(j:Int) < (n:Int):=by omega
    have KC:=Lib.hid hkc;have HLS:=Lib.hid hls;clear hkx hok hhd hWe hg hko hba hpre hless hxk hbx hW0 hkc hls hd hj h0;go_wp2_with fail;rw[←HW.out,←HG.out];refine wp_region_held_drew (S:=fun w'=>Below W.heap.size W w') rfl (ak (Below.refl _ _)) (fun hSw=>?_);refine wpT (i:=0) (v:=?vkb0) ?hkb0 hSw ?kkb0
    case hkb0=>(intro w hSw;(obtain⟨⟨x0,x1,x2,x3,x4⟩,y0,y1,y2,y3,y4⟩:=KC.out w hSw);go_simp;try (with_reducible rfl))
    go_simp;refine wpAnyH_ready (rs:=[1]) (by kernel_rfl) (by simp) ?_;refine AllReadyH.cons rfl (fun K hK=>?_) AllReadyH.nil;go_simp
    with_reducible refine(HOK.out _).mono ?_
    rintro e w1 ⟨rfl,hb1⟩;go_simp;refine hK.out _ _ (hSw.trans (hb1.mono hSw.size)) (fun hSn=>?_);clear hK K hSw;have hSw:=hSn;clear hSn;go_simp;refine wpT (i:=2) (v:=?vkb2) ?hkb2 hSw ?kkb2
    case hkb2=>(intro w hSw;(obtain⟨⟨x0,x1,x2,x3,x4⟩,y0,y1,y2,y3,y4⟩:=KC.out w hSw);go_simp;try (with_reducible rfl))
    go_simp;refine wpT (i:=3) (v:=?vkb3) ?hkb3 hSw ?kkb3
    case hkb3=>(intro w hSw;(obtain⟨⟨x0,x1,x2,x3,x4⟩,y0,y1,y2,y3,y4⟩:=KC.out w hSw);go_simp;try (with_reducible rfl))
    go_simp;refine wpT (i:=4) (v:=?vkb4) ?hkb4 hSw ?kkb4
    case hkb4=>(intro w hSw;(obtain⟨⟨x0,x1,x2,x3,x4⟩,y0,y1,y2,y3,y4⟩:=KC.out w hSw);go_simp;try (with_reducible rfl))
    go_simp;refine wpT (i:=5) (v:=?vkb5) ?hkb5 hSw ?kkb5
    case hkb5=>(intro w hSw;(obtain⟨⟨x0,x1,x2,x3,x4⟩,y0,y1,y2,y3,y4⟩:=KC.out w hSw);go_simp;try (with_reducible rfl))
    go_simp;refine wpT (i:=6) (v:=?vkb6) ?hkb6 hSw ?kkb6
    case hkb6=>(intro w hSw;(obtain⟨⟨x0,x1,x2,x3,x4⟩,y0,y1,y2,y3,y4⟩:=KC.out w hSw);go_simp;try (with_reducible rfl))
    go_simp;refine wpT (i:=7) (v:=?vkb7) ?hkb7 hSw ?kkb7
    case hkb7=>(intro w hSw;(obtain⟨⟨x0,x1,x2,x3,x4⟩,y0,y1,y2,y3,y4⟩:=KC.out w hSw);go_simp;try (with_reducible rfl))
    go_simp;refine wpT (i:=8) (v:=?vkb8) ?hkb8 hSw ?kkb8
    case hkb8=>(intro w hSw;(obtain⟨⟨x0,x1,x2,x3,x4⟩,y0,y1,y2,y3,y4⟩:=KC.out w hSw);go_simp;try (with_reducible rfl))
    go_simp;refine wpT (i:=9) (v:=?vkb9) ?hkb9 hSw ?kkb9
    case hkb9=>(intro w hSw;(obtain⟨⟨x0,x1,x2,x3,x4⟩,y0,y1,y2,y3,y4⟩:=KC.out w hSw);go_simp;try (with_reducible rfl))
    go_simp;refine wpT (i:=10) (v:=?vkb10) ?hkb10 hSw ?kkb10
    case hkb10=>(intro w hSw;(obtain⟨⟨x0,x1,x2,x3,x4⟩,y0,y1,y2,y3,y4⟩:=KC.out w hSw);go_simp;try (with_reducible rfl))
    go_simp;refine wpT (i:=11) (v:=?vkb11) ?hkb11 hSw ?kkb11
    case hkb11=>(intro w hSw;(obtain⟨⟨x0,x1,x2,x3,x4⟩,y0,y1,y2,y3,y4⟩:=KC.out w hSw);go_simp;try (with_reducible rfl))
    go_simp;refine wpT (i:=12) (v:=?vkb12) ?hkb12 hSw ?kkb12
    case hkb12=>(intro w hSw;(obtain⟨⟨x0,x1,x2,x3,x4⟩,y0,y1,y2,y3,y4⟩:=KC.out w hSw);go_simp;try (with_reducible rfl))
    go_simp;refine wpAnyH_ready (rs:=[13]) (by kernel_rfl) (by simp) ?_;refine AllReadyH.cons rfl (fun K hK=>?_) AllReadyH.nil;go_simp
    with_reducible refine(HLS.out _).mono ?_
    rintro e w3 ⟨rfl,hb3⟩;go_simp;refine hK.out _ _ (hSw.trans (hb3.mono hSw.size)) (fun hSn=>?_);clear hK K hSw;have hSw:=hSn;clear hSn;go_simp;refine wpT (i:=14) (v:=?vkb14) ?hkb14 hSw ?kkb14
    case hkb14=>(intro w hSw;(obtain⟨⟨x0,x1,x2,x3,x4⟩,y0,y1,y2,y3,y4⟩:=KC.out w hSw);go_simp;try (with_reducible rfl))
    go_simp;refine wpT (i:=15) (v:=?vkb15) ?hkb15 hSw ?kkb15
    case hkb15=>(intro w hSw;(obtain⟨⟨x0,x1,x2,x3,x4⟩,y0,y1,y2,y3,y4⟩:=KC.out w hSw);go_simp;try (with_reducible rfl))
    go_simp;refine wpT (i:=16) (v:=?vkb16) ?hkb16 hSw ?kkb16
    case hkb16=>(intro w hSw;(obtain⟨⟨x0,x1,x2,x3,x4⟩,y0,y1,y2,y3,y4⟩:=KC.out w hSw);go_simp;try (with_reducible rfl))
    go_simp;refine wpT (i:=17) (v:=?vkb17) ?hkb17 hSw ?kkb17
    case hkb17=>(intro w hSw;(obtain⟨⟨x0,x1,x2,x3,x4⟩,y0,y1,y2,y3,y4⟩:=KC.out w hSw);go_simp;try (with_reducible rfl))
    go_simp;refine wpT (i:=18) (v:=?vkb18) ?hkb18 hSw ?kkb18
    case hkb18=>(intro w hSw;(obtain⟨⟨x0,x1,x2,x3,x4⟩,y0,y1,y2,y3,y4⟩:=KC.out w hSw);go_simp;try (with_reducible rfl))
    go_simp;refine wpT (i:=19) (v:=?vkb19) ?hkb19 hSw ?kkb19
    case hkb19=>(intro w hSw;(obtain⟨⟨x0,x1,x2,x3,x4⟩,y0,y1,y2,y3,y4⟩:=KC.out w hSw);go_simp;try (with_reducible rfl))
    go_simp;refine wpT (i:=20) (v:=?vkb20) ?hkb20 hSw ?kkb20
    case hkb20=>(intro w hSw;(obtain⟨⟨x0,x1,x2,x3,x4⟩,y0,y1,y2,y3,y4⟩:=KC.out w hSw);go_simp;try (with_reducible rfl))
    go_simp;refine wpT (i:=21) (v:=?vkb21) ?hkb21 hSw ?kkb21
    case hkb21=>(intro w hSw;(obtain⟨⟨x0,x1,x2,x3,x4⟩,y0,y1,y2,y3,y4⟩:=KC.out w hSw);go_simp;try (with_reducible rfl))
    go_simp;refine wpAnyH_ready (rs:=[22]) (by kernel_rfl) (by simp) ?_;refine AllReadyH.cons rfl (fun K hK=>?_) AllReadyH.nil;go_simp
    with_reducible refine(HHD.out _ (hbz _ hSw)).mono ?_
    rintro e w2 ⟨rfl,hb2⟩;go_simp;refine hK.out _ _ (hSw.trans (hb2.mono hSw.size)) (fun hSn=>?_);clear hK K hSw;have hSw:=hSn;clear hSn;go_simp;refine wpT (i:=23) (v:=?vkb23) ?hkb23 hSw ?kkb23
    case hkb23=>(intro w hSw;(obtain⟨⟨x0,x1,x2,x3,x4⟩,y0,y1,y2,y3,y4⟩:=KC.out w hSw);go_simp;try (with_reducible rfl))
    go_simp;refine wpAnyH_done (by kernel_rfl) ?_ _;have hby:=az hbl (hbz _ hSw);clear hSw KC HOK HHD HLS;go_wp2;go_roundw
    case rel=>exact⟨k+1,by omega,by go_num,hby⟩
    case measure=>simp[intOf];omega
  ·go_wp2
   go_ret;exact⟨rfl,hbl⟩
end
section
open Go Go.RowKit Go.Lib
theorem lw3 {a b:List It} {k:Nat} (h:k < b.length):joins a (b.take (k+1))=add (joins a (b.take k)) b[k]:=by
 unfold joins;rw[List.take_succ_eq_append_getElem h,List.foldl_append];rfl
def ew1 (w:World) (R:List It) (e:Ending) (w':World):Prop:=∃A' k,e=.returned (.slice A' k k)∧k=R.length∧Its w.heap.size w' A' k k R∧Below w.heap.size w w'
theorem pj1 (A:Option Addr) (n c:Nat) (a:List It) (B:Option Addr) (m d:Nat) (b:List It) (w:World) (hsz:n+m≤900000) (hnc:n≤c) (hcm:c≤maxLen) (hS:Stt a) (ra:Row w.heap.size w A n 5 (itc a)) (rb:Row w.heap.size w B m 5 (itc b)):
  Calls Tryz.prog 89 #[.slice A n c,.slice B m d] w (ew1 w (joins a b)):=by
 have hna:=ra.bj1;have hmb:=rb.bj1;have how:=zz4 A n c a w (by omega) ra;have hok:=fun W (hb:Below w.heap.size w W)=>vq4 A n c a W (by omega) hnc hcm hS ((ra.below hb).up hb.size);obtain⟨R,hR⟩:∃R,R=joins a b:=⟨_,rfl⟩;rw[←hR];have HR:=Lib.hid hR;have HOW:=Lib.hid how;have HOK:=Lib.hid hok;have HS:=Lib.hid hS;clear how hok hR hS ra;go_enter Tryz.func89,Tryz.ntmps89;go_wp2_with fail;refine HOW.out.mono ?_;rintro e w1 ⟨A1,c1,rfl,ho1,hb1⟩;have HO1:=Lib.hid ho1;clear HOW ho1;go_wp2_with fail;refine(HOK.out _ hb1).mono ?_;rintro e w2 ⟨rfl,hb2⟩;have hb3:=az hb1 hb2;have ho2:=own_below HO1.out hb2;have HO2:=Lib.hid ho2;clear ho2 HO1 hb1 hb2 HOK;go_wp2_with fail
 go_loopw [5,17] (fun v i wr=>∃(k q:Nat) (A2:Option Addr) (c2:Nat),k≤m∧v=.slice A2 q c2∧i=.int .i64 (k:Int)∧Hid (q=(joins a (b.take k)).length∧wr.ownsRow w.heap.size 36 5 (.slice A2 q c2) q (itc (joins a (b.take k))))∧Below w.heap.size w wr) (fun _ i _=>m - (intOf i).toNat)
 case atStart=>exact⟨0,n,A1,c1,Nat.zero_le _,rfl,rfl,Lib.hid ⟨hna.symm,HO2.out⟩,hb3⟩
 case round=>
  obtain⟨k,q,A2,c2,hk,rfl,rfl,HQ,hbl⟩:=hrel;clear HO2 hb3
  by_cases hlt:k < m
  ·obtain⟨p,hl,rfl,hbk,c0,c1,c2',c3,c4⟩:=(rb.below hbl).it hlt
   have hjt:=lw3 (a:=a) hl;have hst:=(vj1 (b.take k) HS.out).1;have hjl:=uq2 (b.take k) a;rw[List.length_take]at hjl;have hq1:=HQ.out.1;have hoV:=own_below HQ.out.2 ((Below.refl wr.heap.size wr).alloc (Nat.le_refl _) (.cells #[.int .i64 (b[k]).s,.int .i64 (b[k]).k,.int .u64 ((b[k]).t:Int),.int .u64 ((b[k]).v:Int),.int .i64 (b[k]).x] 36));have hsa:=iq4 w.heap.size A2 q c2 _ b[k] _ (by omega) (Nat.le_trans hbl.size (by simp)) hst hoV;rw[←hjt]at hsa;generalize b[k]=x at *;unfold It.val at hsa;have hbV:=hbl.alloc hbl.size (.cells #[.int .i64 x.s,.int .i64 x.k,.int .u64 (x.t:Int),.int .u64 (x.v:Int),.int .i64 x.x] 36);have HSA:=Lib.hid (And.intro hsa hbV);clear hsa hbV hoV hst hjt hjl hq1;go_wp2_with fail;refine HSA.out.1.mono ?_;rintro e w5 ⟨k5,A5,c5,rfl,hk5,ho5,hb5⟩;have H5:=Lib.hid (And.intro (And.intro hk5 ho5) (HSA.out.2.trans hb5));clear hk5 ho5 hb5 HSA HQ;go_wp2;go_roundw
   case rel=>exact⟨k+1,k5,A5,c5,by omega,rfl,by go_num,Lib.hid H5.out.1,H5.out.2⟩
   case measure=>simp[intOf];omega
  ·have hall:joins a (b.take k)=R:=by rw[List.take_of_length_le (by omega),HR.out]
   have hq:=HQ.out;rw[hall]at hq;obtain⟨A3,c3,hv,hqc,hqm,hlow⟩:=ay hq.2;injection hv with e1 e2 e3;subst e1 e3;have hits:Its w.heap.size wr A2 q q R:=⟨Row.own hq.2,Nat.le_refl _,Nat.le_trans hqc hqm,fun p hp=>(hlow p hp).1⟩;have hcl:=zy1 A2 q c2 wr hqc;have HF:=Lib.hid (And.intro hq.1 hits);have HCL:=Lib.hid hcl;clear hcl hits hq hall hlow hqc hqm;go_wp2_with fail;refine HCL.out.mono ?_;rintro e w6 ⟨rfl,rfl⟩;go_wp2;go_ret;exact⟨A2,q,rfl,HF.out.1,HF.out.2,hbl⟩
theorem wq4 (B:Option Addr) (m d:Nat) (b:List It) (w:World) (hsz:m≤900000) (rb:Row w.heap.size w B m 5 (itc b)):Calls Tryz.prog 90 #[.slice B m d] w (ew1 w (ofs b)):=by
 have hj:=pj1 none 0 0 [] B m d b w (by omega) (Nat.le_refl _) (Nat.zero_le _) Stt.nil Row.nil_ rb;have HJ:=Lib.hid hj;clear hj;go_enter Tryz.func90,Tryz.ntmps90;go_wp2_with fail;refine HJ.out.mono ?_;rintro e w1 ⟨A1,k,rfl,h1,h2,h3⟩;have H:=Lib.hid (And.intro h1 (And.intro h2 h3));clear h1 h2 h3;go_wp2;go_ret;exact⟨A1,k,rfl,H.out.1,H.out.2.1,H.out.2.2⟩
end
section
open Go Go.RowKit Go.Lib
theorem gx3 {w:World} {vb:Nat} {x:It} (hv:BoxO w 36 vb x.cells):Row w.heap.size w (some ⟨vb,0,none⟩) 1 5 x.cells:=⟨rfl,fun j hj=>⟨_,rfl,hv.lt,by
 rw[show ((⟨vb,0,none⟩:Addr).add j)=⟨vb,j,none⟩ by rw[Addr.add_lit,Nat.zero_add],hv.cell];exact List.getElem?_eq_getElem hj⟩⟩
theorem dj3 (K:Nat) (hF:∀args w,(callFunc K args).run Tryz.prog w=.ok (.enter K args) w) (capt:Array Value) (P:It→Bool) (A:Option Addr) (n c:Nat) (l:List It) (w:World) (hn:n≤1000000) (hr:Row w.heap.size w A n 5 (itc l))
  (hK:∀x w1,Below w.heap.size w w1→Calls Tryz.prog K (#[x.val] ++capt) w1 fun e w'=>e=.returned (.bool (P x))∧Below w1.heap.size w1 w'):
  Calls Tryz.prog 124 #[.slice A n c,.func (.func K) #[] capt] w (ew1 w (l.filter P)):=by
 have hnn:=hr.bj1;obtain⟨i0,hi0,hz0,hz1,hz2⟩:=info_parts az1;have HF:=Lib.hid hF;have HK:=Lib.hid hK;clear hF hK;go_enter Tryz.func124,Tryz.ntmps124;go_wp2
 go_loopw [5,10] (fun v i wr=>∃(k q:Nat) (A2:Option Addr) (c2:Nat),k≤n∧v=.slice A2 q c2∧i=.int .i64 (k:Int)∧Hid (q=((l.take k).filter P).length∧wr.ownsRow w.heap.size 36 5 (.slice A2 q c2) q (itc ((l.take k).filter P)))∧Below w.heap.size w wr) (fun _ i _=>n - (intOf i).toNat)
 case atStart=>exact⟨0,0,none,0,Nat.zero_le _,rfl,rfl,Lib.hid ⟨rfl,World.ownsRow_nil _ _ _ _⟩,Below.refl _ _⟩
 case round=>
  obtain⟨k,q,A2,c2,hk,rfl,rfl,HQ,hbl⟩:=hrel
  by_cases hlt:k < n
  ·obtain⟨p,hl,rfl,hbk,c0,c1,c2',c3,c4⟩:=(hr.below hbl).it hlt
   have hft:=vk1 (P:=P) hl;have hql:q≤1000000:=by
    have h1:=HQ.out.1;have h2:=List.length_filter_le P (l.take k);rw[List.length_take]at h2;omega
   generalize l[k]=x at *;have hbV:=hbl.alloc hbl.size (.cells #[.int .i64 x.s,.int .i64 x.k,.int .u64 (x.t:Int),.int .u64 (x.v:Int),.int .i64 x.x] 36);have hbo:=(Below.refl wr.heap.size wr).alloc (Nat.le_refl _) (.cells #[.int .i64 x.s,.int .i64 x.k,.int .u64 (x.t:Int),.int .u64 (x.v:Int),.int .i64 x.x] 36);have hbx:BoxO (wr.alloc (.cells #[.int .i64 x.s,.int .i64 x.k,.int .u64 (x.t:Int),.int .u64 (x.v:Int),.int .i64 x.x] 36)) 36 wr.heap.size x.cells:=BoxO.new wr #[.int .i64 x.s,.int .i64 x.k,.int .u64 (x.t:Int),.int .u64 (x.v:Int),.int .i64 x.x] 36;have hkk:=HK.out x _ hbV;unfold It.val at hkk;obtain⟨b,hb⟩:∃b,b=P x:=⟨_,rfl⟩;rw[←hb]at hkk hft;have HKK:=Lib.hid hkk;have HFT:=Lib.hid hft;clear hkk hft hb;go_wp2_with fail;rw[HF.out,Oper.upon_enter];refine HKK.out.mono ?_;rintro e w2 ⟨rfl,hb2⟩;have hb3:=az hbV (hb2);have ho3:=own_below (own_below HQ.out.2 hbo) hb2;have hbx2:=hbx.below hb2;generalize wr.heap.size=g at *
   cases b with
   |false=>
    have H3:=Lib.hid (And.intro (show q=((l.take (k+1)).filter P).length by rw[HFT.out];simpa using HQ.out.1) (show w2.ownsRow w.heap.size 36 5 (.slice A2 q c2) q (itc ((l.take (k+1)).filter P)) by rw[HFT.out];simpa using ho3));clear HKK HFT HQ ho3 hbx hbx2 hbo c0 c1 c2' c3 c4;go_wp2;go_roundw
    case rel=>exact⟨k+1,q,A2,c2,by omega,rfl,by go_num,H3.out,hb3⟩
    case measure=>simp[intOf];omega
   |true=>
    have b0:=hbx2.cell 0;have b1:=hbx2.cell 1;have b2:=hbx2.cell 2;have b3:=hbx2.cell 3;have b4:=hbx2.cell 4;simp only[It.cells,gE0,gE1]at b0 b1 b2 b3 b4;have hvb:BoxO (w2.alloc (.cells #[.int .i64 x.s,.int .i64 x.k,.int .u64 (x.t:Int),.int .u64 (x.v:Int),.int .i64 x.x] 36)) 36 w2.heap.size x.cells:=BoxO.new w2 #[.int .i64 x.s,.int .i64 x.k,.int .u64 (x.t:Int),.int .u64 (x.v:Int),.int .i64 x.x] 36;have hbA:=(Below.refl w2.heap.size w2).alloc (Nat.le_refl _) (.cells #[.int .i64 x.s,.int .i64 x.k,.int .u64 (x.t:Int),.int .u64 (x.v:Int),.int .i64 x.x] 36);have ho4:=own_below ho3 hbA;have hb4:=az hb3 hbA;have hrow:=gx3 hvb;have HX:=Lib.hid (show itc ((l.take k).filter P)++x.cells=itc ((l.take (k+1)).filter P) by rw[HFT.out,if_pos rfl,bz1];simp[itc]);have HQ1:=Lib.hid (show q+1=((l.take (k+1)).filter P).length by rw[HFT.out,if_pos rfl,List.length_append,←HQ.out.1];rfl);have HR:=Lib.hid hrow;have HO:=Lib.hid ho4;have HB:=Lib.hid hb4;clear HKK HFT HQ ho3 ho4 hbx hbx2 hbo c0 c1 c2' c3 c4 hrow hvb hbA hb4;go_wp2_with (at_builtin;refine jq ?_);refine gy (lq rfl (.tmp 17) (.tmp 19) _ rfl w.heap.size 36 i0 _ 5 40 Tryz.underlying31 hi0 hz0 hz1 hz2 rfl (by omega) w HB.out HB.out.size _ q (itc ((l.take k).filter P)) rfl HO.out (w2.alloc (.cells #[.int .i64 x.s,.int .i64 x.k,.int .u64 (x.t:Int),.int .u64 (x.v:Int),.int .i64 x.x] 36)).heap.size _ 1 1 x.cells rfl HR.out (fun v hv=>fq1 [x] v (by simpa [itc] using hv)) (q+1) _ rfl HX.out (by unfold maxLen;omega) (by omega) ?_);intro A3 c3 w5 h1 h2 h3 h4 h5;have H5:=Lib.hid (And.intro HQ1.out h1);clear h1 h3 HQ1 HX HR HO HB b0 b1 b2 b3 b4;go_wp2;go_roundw
    case rel=>exact⟨k+1,q+1,A3,c3,by omega,rfl,by go_num,H5.out,h2⟩
    case measure=>simp[intOf];omega
  ·have hall:l.take k=l:=List.take_of_length_le (by omega)
   have hq:=HQ.out;rw[hall]at hq;obtain⟨A3,c3,hv,hqc,hqm,hlow⟩:=ay hq.2;injection hv with e1 e2 e3;subst e1 e3;have hits:Its w.heap.size wr A2 q q (l.filter P):=⟨Row.own hq.2,Nat.le_refl _,Nat.le_trans hqc hqm,fun p hp=>(hlow p hp).1⟩;have hcl:=zy1 A2 q c2 wr hqc;have HFF:=Lib.hid (And.intro hq.1 hits);have HCL:=Lib.hid hcl;clear hcl hits hq hall hlow hqc hqm HQ;go_wp2_with fail;refine HCL.out.mono ?_;rintro e w6 ⟨rfl,rfl⟩;go_wp2;go_ret;exact⟨A2,q,rfl,HFF.out.1,HFF.out.2,hbl⟩
end
section
open Go Go.RowKit Go.Lib
theorem xv2 (a:It) (s:Int) (b:Nat) (w:World) (hc:w.cell? ⟨b,0,none⟩=some (.int .i64 s)):
  Calls Tryz.prog 206 (#[a.val] ++#[.pointer (some ⟨b,0,none⟩)]) w fun e w'=>e=.returned (.bool (a.s==s))∧Below w.heap.size w w':=by
 have hb0:=(Below.refl w.heap.size w).alloc (Nat.le_refl _) (.cells #[.int .i64 a.s,.int .i64 a.k,.int .u64 (a.t:Int),.int .u64 (a.v:Int),.int .i64 a.x] 36);have hc1:∀o,(w.alloc o).cell? ⟨b,0,none⟩=some (.int .i64 s):=fun o=>(World.cell?_alloc_lt w o _ (World.block_lt_of_cell? w _ hc)).trans hc;unfold It.val;go_enter Tryz.func206,Tryz.ntmps206;go_wp2;go_ret;exact⟨rfl,hb0⟩
theorem yz2 (A:Option Addr) (n c:Nat) (l:List It) (s:Int) (w:World) (hn:n≤1000000) (hr:Row w.heap.size w A n 5 (itc l)):
  Calls Tryz.prog 122 #[.slice A n c,.int .i64 s] w (ew1 w (l.filter fun a=>a.s==s)):=by
 have hbV:=(Below.refl w.heap.size w).alloc (Nat.le_refl _) (.cells #[.int .i64 s] 3);have hbx:=BoxO.new w #[.int .i64 s] 3;have ho:=dj3 206 (fun _ _=>rfl) #[.pointer (some ⟨w.heap.size,0,none⟩)] (fun a=>a.s==s) A n c l (w.alloc (.cells #[.int .i64 s] 3)) hn ((hr.below hbV).up hbV.size)
  (fun x w1 hw=>xv2 x s w.heap.size w1 (by rw[(hbx.below hw).cell];rfl))
 have HO:=Lib.hid ho;clear ho hr hbx;go_enter Tryz.func122,Tryz.ntmps122;go_wp2_with fail;refine HO.out.mono ?_;rintro e w1 ⟨A1,k,rfl,h1,h2,h3⟩;have H:=Lib.hid (show ew1 w (l.filter fun a=>a.s==s) (.returned (.slice A1 k k)) w1 from ⟨A1,k,rfl,h1,⟨h2.row,h2.nc,h2.cm,fun p hp=>Nat.le_trans hbV.size (h2.low p hp)⟩,az hbV h3⟩);clear h1 h2 h3 HO hbV;go_wp2;go_ret;exact H.out
end
section
open Go Go.RowKit Go.Lib
end
section
open Go Go.RowKit
end
section
open Go Go.RowKit Go.Lib
theorem pv4 (x y:It) (w:World):(binOp .neq 36 (.agg #[.int .i64 x.s,.int .i64 x.k,.int .u64 (x.t:Int),.int .u64 (x.v:Int),.int .i64 x.x]) (.agg #[.int .i64 y.s,.int .i64 y.k,.int .u64 (y.t:Int),.int .u64 (y.v:Int),.int .i64 y.x])).run Tryz.prog w=.ok (.bool (!decide (x=y))) w:=by
 have u3:=Tryz.underlying3;have a3:=Tryz.isAgg3;have z3:=Tryz.sizeOf3;have u4:=Tryz.underlying22;have a4:=Tryz.isAgg22;have z4:=Tryz.sizeOf22;have u5:=Tryz.underlying2;have a5:=Tryz.isAgg2;have z5:=Tryz.sizeOf2;have hS:Tryz.prog.underlying 36=some (.struct (Tryz.prog.fieldsOf 36)):=by kernel_rfl
 have hp:Tryz.prog.stoodInHeld 36=false:=by kernel_rfl
 rw[run_neq_struct,show (10000:Nat)=9999+1 from rfl,run_equalIn_agg w 9999 36 _ _ hS hp];simp only[Program.fieldsOf,Tryz.underlying36];go_simp;have e:decide (x=y)=(decide (x.s=y.s) &&(decide (x.k=y.k) &&(decide (x.t=y.t) &&(decide (x.v=y.v) &&decide (x.x=y.x))))):=by
  rw[←Bool.decide_and,←Bool.decide_and,←Bool.decide_and,←Bool.decide_and];exact decide_eq_decide.2 ⟨fun h=>by subst h;simp,fun⟨h1,h2,h3,h4,h5⟩=>It.ext h1 h2 h3 h4 h5⟩
 rw[e]
 by_cases h1:x.s=y.s<;>by_cases h2:x.k=y.k<;>by_cases h3:x.t=y.t<;>by_cases h4:x.v=y.v<;>by_cases h5:x.x=y.x<;>simp[h1,h2,h3,h4,h5] <;>omega
theorem zx4 {x y:It} (h:x≠y) {α:Type} (A B:α):(if x.s=y.s then if x.k=y.k then if (x.t:Int)=(y.t:Int) then if (x.v:Int)=(y.v:Int) then if x.x=y.x then A else B else B else B else B else B)=B:=by
 by_cases h1:x.s=y.s
 ·by_cases h2:x.k=y.k
  ·by_cases h3:(x.t:Int)=(y.t:Int)
   ·by_cases h4:(x.v:Int)=(y.v:Int)
    ·by_cases h5:x.x=y.x
     ·exact absurd (It.ext h1 h2 (by omega) (by omega) h5) h
     ·rw[if_pos h1,if_pos h2,if_pos h3,if_pos h4,if_neg h5]
    ·rw[if_pos h1,if_pos h2,if_pos h3,if_neg h4]
   ·rw[if_pos h1,if_pos h2,if_neg h3]
  ·rw[if_pos h1,if_neg h2]
 ·rw[if_neg h1]
theorem dx2 (A:Option Addr) (n c:Nat) (a:List It) (B:Option Addr) (m d:Nat) (b:List It) (w:World) (hn:n≤1000000) (hm:m≤1000000) (ra:Row w.heap.size w A n 5 (itc a)) (rb:Row w.heap.size w B m 5 (itc b)):
  Calls Tryz.prog 17 #[.slice A n c,.slice B m d] w fun e w'=>e=.returned (.bool (decide (a=b)))∧Below w.heap.size w w':=by
 have hna:=ra.bj1;have hmb:=rb.bj1;obtain⟨r,hr⟩:∃r,r=decide (a=b):=⟨_,rfl⟩;rw[←hr]
 by_cases hnm:n=m
 ·subst hnm
  have HR:=Lib.hid hr;clear hr;go_enter Tryz.func17,Tryz.ntmps17;go_wp2
  go_loopw [5] (fun i wr=>∃k:Nat,k≤n∧i=.int .i64 (k:Int)∧Hid (a.take k=b.take k)∧Below w.heap.size w wr) (fun i _=>n - (intOf i).toNat)
  case atStart=>exact⟨0,Nat.zero_le _,rfl,Lib.hid rfl,Below.refl _ _⟩
  case round=>
   obtain⟨k,hk,rfl,HE,hbl⟩:=hrel
   by_cases hlt:k < n
   ·obtain⟨p,hl,rfl,hbk,hd⟩:=(ra.below hbl).it hlt
    obtain⟨p2,hl2,rfl,hbk2,hd2⟩:=(rb.below hbl).it hlt;have hte:a.take (k+1)=a.take k++[a[k]]:=List.take_succ_eq_append_getElem hl;have htf:b.take (k+1)=b.take k++[b[k]]:=List.take_succ_eq_append_getElem hl2;have hne:a[k]≠b[k]→a≠b:=fun h e=>by subst e;exact h rfl
    generalize a[k]=x at *;generalize b[k]=y at *;have hnq:=pv4 x y;obtain⟨q,hq⟩:∃q,q=decide (x=y):=⟨_,rfl⟩;rw[←hq]at hnq;have hkc:∀w',Below wr.heap.size wr w'→(w'.cell? (p.add (k *5))=some (.int .i64 x.s)∧w'.cell? ⟨(p.add (k *5)).block,(p.add (k *5)).off+1,none⟩=some (.int .i64 x.k)∧w'.cell? ⟨(p.add (k *5)).block,(p.add (k *5)).off+2,none⟩=some (.int .u64 (x.t:Int))∧w'.cell? ⟨(p.add (k *5)).block,(p.add (k *5)).off+3,none⟩=some (.int .u64 (x.v:Int))∧w'.cell? ⟨(p.add (k *5)).block,(p.add (k *5)).off+4,none⟩=some (.int .i64 x.x))∧w'.cell? (p2.add (k *5))=some (.int .i64 y.s)∧w'.cell? ⟨(p2.add (k *5)).block,(p2.add (k *5)).off+1,none⟩=some (.int .i64 y.k)∧w'.cell? ⟨(p2.add (k *5)).block,(p2.add (k *5)).off+2,none⟩=some (.int .u64 (y.t:Int))∧w'.cell? ⟨(p2.add (k *5)).block,(p2.add (k *5)).off+3,none⟩=some (.int .u64 (y.v:Int))∧w'.cell? ⟨(p2.add (k *5)).block,(p2.add (k *5)).off+4,none⟩=some (.int .i64 y.x):=fun w' hb=>by
     have h1:=hd.below (B:=wr.heap.size) (w':=w') (Nat.lt_of_lt_of_le hbk hbl.size) hb;have h2:=hd2.below (B:=wr.heap.size) (w':=w') (Nat.lt_of_lt_of_le hbk2 hbl.size) hb;exact⟨⟨h1.c0,h1.c1,h1.c2,h1.c3,h1.c4⟩,h2.c0,h2.c1,h2.c2,h2.c3,h2.c4⟩
    have KC:=Lib.hid hkc;have HQ:=Lib.hid hq;have HNE:=Lib.hid hne;have HT:=Lib.hid (And.intro hte htf);have HNQ:=Lib.hid hnq;have hwk:IntKind.i64.wrap (k:Int)=(k:Int):=IntWalk.i64_in _ (by omega);have hkn:(k:Int) < (n:Int):=by omega
    clear hkc hq hne hte htf hd hd2 hnq
    by_cases hxy:x=y
    ·have H1:=Lib.hid (show a.take (k+1)=b.take (k+1) by rw[HT.out.1,HT.out.2,HE.out,hxy])
     subst hxy;clear HNQ HQ;go_wp2_with fail;refine wp_region_held_drew (S:=fun w'=>Below wr.heap.size wr w') rfl (ak (Below.refl _ _)) (fun hSw=>?_);refine wpT (i:=0) (v:=?vea0) ?hea0 hSw ?kea0
     case hea0=>(intro w hSw;(obtain⟨⟨c0,c1,c2,c3,c4⟩,d0,d1,d2,d3,d4⟩:=KC.out w hSw);go_simp;try (with_reducible rfl))
     go_simp;refine wpT (i:=1) (v:=?vea1) ?hea1 hSw ?kea1
     case hea1=>(intro w hSw;(obtain⟨⟨c0,c1,c2,c3,c4⟩,d0,d1,d2,d3,d4⟩:=KC.out w hSw);go_simp;try (with_reducible rfl))
     go_simp;refine wpT (i:=2) (v:=?vea2) ?hea2 hSw ?kea2
     case hea2=>(intro w hSw;(obtain⟨⟨c0,c1,c2,c3,c4⟩,d0,d1,d2,d3,d4⟩:=KC.out w hSw);go_simp;try (with_reducible rfl))
     go_simp;refine wpT (i:=3) (v:=?vea3) ?hea3 hSw ?kea3
     case hea3=>(intro w hSw;(obtain⟨⟨c0,c1,c2,c3,c4⟩,d0,d1,d2,d3,d4⟩:=KC.out w hSw);go_simp;try (with_reducible rfl))
     go_simp;refine wpT (i:=4) (v:=?vea4) ?hea4 hSw ?kea4
     case hea4=>(intro w hSw;(obtain⟨⟨c0,c1,c2,c3,c4⟩,d0,d1,d2,d3,d4⟩:=KC.out w hSw);go_simp;try (with_reducible rfl))
     go_simp;refine wpT (i:=5) (v:=?vea5) ?hea5 hSw ?kea5
     case hea5=>(intro w hSw;(obtain⟨⟨c0,c1,c2,c3,c4⟩,d0,d1,d2,d3,d4⟩:=KC.out w hSw);go_simp;try (with_reducible rfl))
     go_simp;refine wpT (i:=6) (v:=?vea6) ?hea6 hSw ?kea6
     case hea6=>(intro w hSw;(obtain⟨⟨c0,c1,c2,c3,c4⟩,d0,d1,d2,d3,d4⟩:=KC.out w hSw);go_simp;try (with_reducible rfl))
     go_simp;refine wpT (i:=7) (v:=?vea7) ?hea7 hSw ?kea7
     case hea7=>(intro w hSw;(obtain⟨⟨c0,c1,c2,c3,c4⟩,d0,d1,d2,d3,d4⟩:=KC.out w hSw);go_simp;try (with_reducible rfl))
     go_simp;refine wpT (i:=8) (v:=?vea8) ?hea8 hSw ?kea8
     case hea8=>(intro w hSw;(obtain⟨⟨c0,c1,c2,c3,c4⟩,d0,d1,d2,d3,d4⟩:=KC.out w hSw);go_simp;try (with_reducible rfl))
     go_simp;refine wpAnyH_done (by kernel_rfl) ?_ _;have hby:=hbl.trans (hSw.mono hbl.size);clear hSw KC;go_wp2;go_roundw
     case rel=>exact⟨k+1,by omega,by go_num,H1.out,hby⟩
     case measure=>simp[intOf];omega
    ·have hrf:r=false:=by
      rw[HR.out];simpa using HNE.out hxy
     have H1:=Lib.hid hrf;have HIF:=Lib.hid (fun(α:Type) (A B:α)=>zx4 hxy A B);clear hrf hxy HNQ HQ;go_wp2_with fail;refine wp_region_held_drew (S:=fun w'=>Below wr.heap.size wr w') rfl (ak (Below.refl _ _)) (fun hSw=>?_);refine wpT (i:=0) (v:=?veb0) ?heb0 hSw ?keb0
     case heb0=>(intro w hSw;(obtain⟨⟨c0,c1,c2,c3,c4⟩,d0,d1,d2,d3,d4⟩:=KC.out w hSw;have hif:=HIF.out);go_simp;try (with_reducible rfl))
     go_simp;refine wpT (i:=1) (v:=?veb1) ?heb1 hSw ?keb1
     case heb1=>(intro w hSw;(obtain⟨⟨c0,c1,c2,c3,c4⟩,d0,d1,d2,d3,d4⟩:=KC.out w hSw;have hif:=HIF.out);go_simp;try (with_reducible rfl))
     go_simp;refine wpT (i:=2) (v:=?veb2) ?heb2 hSw ?keb2
     case heb2=>(intro w hSw;(obtain⟨⟨c0,c1,c2,c3,c4⟩,d0,d1,d2,d3,d4⟩:=KC.out w hSw;have hif:=HIF.out);go_simp;try (with_reducible rfl))
     go_simp;refine wpT (i:=3) (v:=?veb3) ?heb3 hSw ?keb3
     case heb3=>(intro w hSw;(obtain⟨⟨c0,c1,c2,c3,c4⟩,d0,d1,d2,d3,d4⟩:=KC.out w hSw;have hif:=HIF.out);go_simp;try (with_reducible rfl))
     go_simp;refine wpT (i:=4) (v:=?veb4) ?heb4 hSw ?keb4
     case heb4=>(intro w hSw;(obtain⟨⟨c0,c1,c2,c3,c4⟩,d0,d1,d2,d3,d4⟩:=KC.out w hSw;have hif:=HIF.out);go_simp;try (with_reducible rfl))
     go_simp;refine wpT (i:=5) (v:=?veb5) ?heb5 hSw ?keb5
     case heb5=>(intro w hSw;(obtain⟨⟨c0,c1,c2,c3,c4⟩,d0,d1,d2,d3,d4⟩:=KC.out w hSw;have hif:=HIF.out);go_simp;try (with_reducible rfl))
     go_simp;refine wpT (i:=6) (v:=?veb6) ?heb6 hSw ?keb6
     case heb6=>(intro w hSw;(obtain⟨⟨c0,c1,c2,c3,c4⟩,d0,d1,d2,d3,d4⟩:=KC.out w hSw;have hif:=HIF.out);go_simp;try (with_reducible rfl))
     go_simp;refine wpT (i:=7) (v:=?veb7) ?heb7 hSw ?keb7
     case heb7=>(intro w hSw;(obtain⟨⟨c0,c1,c2,c3,c4⟩,d0,d1,d2,d3,d4⟩:=KC.out w hSw;have hif:=HIF.out);go_simp;try (with_reducible rfl))
     go_simp;refine wpT (i:=8) (v:=?veb8) ?heb8 hSw ?keb8
     case heb8=>(intro w hSw;(obtain⟨⟨c0,c1,c2,c3,c4⟩,d0,d1,d2,d3,d4⟩:=KC.out w hSw;have hif:=HIF.out);go_simp;try (with_reducible rfl))
     go_simp;refine wpAnyH_done (by kernel_rfl) ?_ _;have hby:=hbl.trans (hSw.mono hbl.size);clear hSw KC;go_wp2;go_ret;exact⟨iq H1.out.symm,hby⟩
   ·have hall:r=true:=by
     have:=HE.out;rw[List.take_of_length_le (by omega),List.take_of_length_le (by omega)]at this;rw[HR.out,this];simp
    have H1:=Lib.hid hall;clear hall;go_wp2;go_ret;exact⟨iq H1.out.symm,hbl⟩
 ·have hne:r=false:=by
   rw[hr];have:a≠b:=fun e=>hnm (by rw[←hna,←hmb,e]);simpa using this
  have e1:((n:Int)==(m:Int))=false:=by rw[beq_eq_false_iff_ne];omega
  have H1:=Lib.hid hne;clear hne hr;go_enter Tryz.func17,Tryz.ntmps17;go_wp2;go_ret;exact⟨iq H1.out.symm,Below.refl _ _⟩
end
section
open Go Go.RowKit Go.Lib
end
section
open Go Go.RowKit Go.Lib
theorem uj3 {w:World} {L:Nat} {ns:List Nd} (h:SkAt w L ns):(its ns).length+1=ns.length:=by
 obtain⟨hd,tl,hns,_⟩:=h.head;rw[hns];simp[its]
theorem jv4 (L:Nat) (ns:List Nd) (w:World) (hs:SkAt w L ns):
  Calls Tryz.prog 172 #[.pointer (some ⟨L,0,none⟩)] w fun e w'=>e=.returned (.int .i64 ((its ns).length:Int))∧w'=w:=by
 obtain⟨hd,tl,hns,h6,hL⟩:=hs.head;have hl:=uj3 hs;have l1:=hL.cell 1;simp only[gE0,gE1]at l1;have e:tl.length=(its ns).length:=by rw[hns]at hl ⊢;simp at hl;omega
 rw[e]at l1;clear hl e hns;go_enter Tryz.func172,Tryz.ntmps172;go_wp2;go_ret;exact⟨rfl,rfl⟩
end
section
open Go Go.RowKit Go.Lib
def e8 (n:Nat):List UInt8:=[56,48,40,32,24,16,8,0].map fun k=>UInt8.ofNat (n / 2 ^ k)
theorem wz4 (n:Nat) {k:Nat} (hk:k < 8):(e8 n).take (k+1)=(e8 n).take k++[UInt8.ofNat (n / 2 ^ (56 - 8 *k))]:=by
 have e:k=0∨k=1∨k=2∨k=3∨k=4∨k=5∨k=6∨k=7:=by omega
 rcases e with rfl|rfl|rfl|rfl|rfl|rfl|rfl|rfl<;>rfl
theorem av4 (A:Option Addr) (N c:Nat) (l:List UInt8) (n:Nat) (hn:n < 18446744073709551616) (w:World) (hN:N≤1073741824) (hr:Row w.heap.size w A N 1 (bts l)):
  Calls Tryz.prog 257 #[.slice A N c,.int .u64 (n:Int)] w fun e w'=>∃A' c',e=.returned (.slice A' (N+8) c')∧
   w'.ownsRow w.heap.size 5 1 (.slice A' (N+8) c') (N+8) (bts (l++e8 n))∧N+8≤c'∧c'≤maxLen∧Below w.heap.size w w':=by
 obtain⟨i0,hi0,hz0,hz1,hz2⟩:=info_parts gx1;go_enter Tryz.func257,Tryz.ntmps257;go_wp2_with (at_builtin;refine jq ?_);refine gy (uw rfl (.const (.slice none 0 0)) (.tmp 7) _ rfl w.heap.size 5 i0 _ 1 1 Tryz.underlying56 hi0 hz0 hz1 hz2 rfl (by omega) w (Below.refl _ _) (Nat.le_refl _) rfl w.heap.size A N c (bts l) rfl hr (ak1 l) (by unfold maxLen;omega) (by omega) ?_);intro A2 c2 w2 hown2 hb2 hg2 hc2 hm2;go_wp2
 go_loopw [5,6] (fun o m wr=>∃(k:Nat) (A':Option Addr) (c':Nat),k≤8∧o=.slice A' (N+k) c'∧m=.int .i64 (56 - 8 *(k:Int))∧wr.ownsRow w.heap.size 5 1 (.slice A' (N+k) c') (N+k) (bts (l++(e8 n).take k))∧N+k≤c'∧c'≤maxLen∧Below w.heap.size w wr) (fun _ m _=>(intOf m+8).toNat)
 case atStart=>exact⟨0,A2,c2,by omega,rfl,rfl,by simpa using hown2,hc2,hm2,hb2⟩
 case round=>
  obtain⟨k,A',c',hk,rfl,rfl,hown,hc',hm',hb⟩:=hrel;have HO:=Lib.hid hown;clear hown
  by_cases hk8:k < 8
  ·have h0:8 *(k:Int)≤56:=by omega
   go_wp2_with (at_builtin;refine jq ?_);have hbox:Row (wr.heap.size+1) (wr.alloc (.cells #[.int .u8 ((UInt8.ofNat (n / 2 ^ (56 - 8 *k))).toNat:Int)] 5)) (some ⟨wr.heap.size,0,none⟩) 1 1 (bts [UInt8.ofNat (n / 2 ^ (56 - 8 *k))]):=av3 _ _ _;refine gy (lq rfl (.tmp 13) (.tmp 18) _ rfl w.heap.size 5 i0 _ 1 1 Tryz.underlying56 hi0 hz0 hz1 hz2 rfl (by omega) w (hb.alloc hb.size _) (Nat.le_trans hb.size (by simp)) _ (N+k) (bts (l++(e8 n).take k)) rfl (HO.out.alloc _) (wr.heap.size+1) _ 1 1 (bts [UInt8.ofNat (n / 2 ^ (56 - 8 *k))]) rfl hbox (ak1 _) (N+(k+1)) (bts (l++(e8 n).take (k+1))) (by omega) (by rw[wz4 n hk8];simp[bts]) (by unfold maxLen;omega) (by omega) ?_);intro A3 c3 w3 hown3 hb3 _ hc3 hm3;have HO3:=Lib.hid hown3;clear hown3 HO hbox;go_wp2;go_roundw
   case rel=>exact⟨k+1,A3,c3,by omega,rfl,by go_num,HO3.out,hc3,hm3,hb3⟩
   case measure=>simp[intOf];omega
  ·obtain rfl:k=8:=by omega
   have HF:=Lib.hid (show wr.ownsRow w.heap.size 5 1 (.slice A' (N+8) c') (N+8) (bts (l++e8 n)) from HO.out);clear HO;go_wp2;go_ret;exact⟨A',c',rfl,HF.out,hc',hm',hb⟩
theorem gk3 {x:Int} (h0:0≤x) (h1:x≤255):IntKind.u8.wrap x=((UInt8.ofNat x.toNat).toNat:Int):=by
 rw[←xw1];simp only[IntKind.wrap_u8];omega
theorem sk4 (x:It) (hk:x.ok=true) (w:World):
  Calls Tryz.prog 189 #[x.val] w fun e w'=>∃A' c',e=.returned (.slice A' 10 c')∧Row w'.heap.size w' A' 10 1 (bts x.key)∧10≤c'∧c'≤maxLen∧Below w.heap.size w w':=by
 rw[It.iv3]at hk;have e1:=gk3 (x:=x.s) (by omega) (by omega);have e2:=gk3 (x:=x.k) (by omega) (by omega);have ht:x.t < 18446744073709551616:=by omega
 have h8:=fun(W:World) (A:Option Addr) (c:Nat) hr=>av4 A 2 c [UInt8.ofNat x.s.toNat,UInt8.ofNat x.k.toNat] x.t ht W (by omega) hr;have HK:=Lib.hid (show [UInt8.ofNat x.s.toNat,UInt8.ofNat x.k.toNat] ++e8 x.t=x.key from rfl);unfold It.val;generalize UInt8.ofNat x.s.toNat=u1 at *;generalize UInt8.ofNat x.k.toNat=u2 at *;have hW:=(Below.refl w.heap.size w).alloc (Nat.le_refl _) (.cells #[.int .i64 x.s,.int .i64 x.k,.int .u64 (x.t:Int),.int .u64 (x.v:Int),.int .i64 x.x] 36);have H8:=Lib.hid h8;have HW:=Lib.hid hW;clear h8 hk hW;go_enter Tryz.func189,Tryz.ntmps189;go_wp2_with fail;have hrow:Row ((w.alloc (.cells #[.int .i64 x.s,.int .i64 x.k,.int .u64 (x.t:Int),.int .u64 (x.v:Int),.int .i64 x.x] 36)).alloc (.cells #[.int .u8 (u1.toNat:Int),.int .u8 (u2.toNat:Int)] 5)).heap.size ((w.alloc (.cells #[.int .i64 x.s,.int .i64 x.k,.int .u64 (x.t:Int),.int .u64 (x.v:Int),.int .i64 x.x] 36)).alloc (.cells #[.int .u8 (u1.toNat:Int),.int .u8 (u2.toNat:Int)] 5)) (some ⟨w.heap.size+1,0,none⟩) 2 1 (bts [u1,u2]):=by
  have:=Row.new (w.alloc (.cells #[.int .i64 x.s,.int .i64 x.k,.int .u64 (x.t:Int),.int .u64 (x.v:Int),.int .i64 x.x] 36)) #[.int .u8 (u1.toNat:Int),.int .u8 (u2.toNat:Int)] 5 (n:=2) (size:=1) rfl;simpa [bts] using this
 have hb:=HW.out.alloc HW.out.size (.cells #[.int .u8 (u1.toNat:Int),.int .u8 (u2.toNat:Int)] 5);refine(H8.out _ _ _ hrow).mono ?_;rintro e w2 ⟨A',c',rfl,ho,h1,h2,h3⟩;rw[HK.out]at ho;have HO:=Lib.hid (show Row w2.heap.size w2 A' 10 1 (bts x.key) from Row.own ho);clear ho hrow H8;go_wp2;go_ret;exact⟨A',c',rfl,HO.out,h1,h2,az hb h3⟩
theorem fw4 (x:Int) (h1:-9223372036854775808≤x) (h2:x < 9223372036854775808):
  bits .xor .u64 (IntKind.u64.wrap (IntKind.u64.wrap x *2)) (IntKind.u64.wrap (x / 9223372036854775808))=(sgn x:Int):=by
 have key:∀a b:Nat,a < 2 ^ 64→b < 2 ^ 64→bits .xor .u64 (a:Int) (b:Int)=((BitVec.ofNat 64 a ^^^ BitVec.ofNat 64 b).toNat:Int):=fun a b ha hb=>by
  have:=gx2 (BitVec.ofNat 64 a) (BitVec.ofNat 64 b);rw[BitVec.toNat_ofNat,BitVec.toNat_ofNat,Nat.mod_eq_of_lt ha,Nat.mod_eq_of_lt hb]at this;exact this
 unfold sgn;simp only[IntKind.wrap_u64]
 by_cases h0:0≤x
 ·rw[if_pos h0]
  have e1:x / 9223372036854775808 % 18446744073709551616=((0:Nat):Int):=by omega
  have e2:x % 18446744073709551616 *2 % 18446744073709551616=((2 *x).toNat:Int):=by omega
  rw[e1,e2,key _ _ (by omega) (by omega)];simp;omega
 ·rw[if_neg h0]
  have e1:x / 9223372036854775808 % 18446744073709551616=((18446744073709551615:Nat):Int):=by omega
  have e2:x % 18446744073709551616 *2 % 18446744073709551616=((2 *x+18446744073709551616).toNat:Int):=by omega
  rw[e1,e2,key _ _ (by omega) (by omega)];have e3:BitVec.ofNat 64 18446744073709551615=BitVec.allOnes 64:=by decide
  rw[e3,BitVec.xor_allOnes,BitVec.toNat_not,BitVec.toNat_ofNat];omega
theorem gj4 (x:Int) (h1:-9223372036854775808≤x) (h2:x < 9223372036854775808) (w:World):
  Calls Tryz.prog 311 #[.int .i64 x] w fun e w'=>e=.returned (.int .u64 (sgn x:Int))∧w'=w:=by
 go_enter Tryz.func311,Tryz.ntmps311;have HS:=Lib.hid (fw4 x h1 h2);go_wp2;rw[HS.out];go_ret;exact⟨rfl,rfl⟩
end
section
open Go.RowKit
theorem jq4 (h:BitVec 64) (c:UInt8):IntKind.u64.wrap (bits .xor .u64 (h.toNat:Int) (IntKind.u64.wrap (c.toNat:Int))*1099511628211)=((Fnv.byte h c).toNat:Int):=by
 have h1:IntKind.u64.wrap (c.toNat:Int)=((BitVec.ofNat 64 c.toNat).toNat:Int):=by
  rw[←ak5,IntKind.wrap_u64];have:=c.toNat_lt;omega
 rw[h1,gx2,IntKind.wrap_u64,Fnv.byte,BitVec.toNat_mul];rfl
theorem oz4 (A:Option Addr) (n c:Nat) (l:List UInt8) (w:World) (hn:n≤9223372036854775807) (hr:Row w.heap.size w A n 1 (bts l)):
  Calls Tryz.prog 241 #[.slice A n c] w fun e w'=>e=.returned (.int .u64 ((Fnv.hash l).toNat:Int))∧w=w':=by
 go_enter Tryz.func241,Tryz.ntmps241;go_wp2
 go_loop [3,8,5] (fun x i _=>∃k:Nat,k≤n∧i=.int .i64 k∧x=.int .u64 ((Fnv.go Fnv.basis (l.take k)).toNat:Int)) (fun _ i _=>n - (intOf i).toNat)
 case atStart=>exact⟨0,Nat.zero_le _,rfl,rfl⟩
 case round=>
  obtain⟨k,hk,rfl,rfl⟩:=hrel
  by_cases hlt:k < n
  ·obtain⟨a,hl,rfl,_,hc⟩:=hr.bt hlt
   go_wp2
   go_round
   case rel=>exact⟨k+1,by omega,by go_num,int_eq (by rw[Fnv.xk4 _ _ _ hl,jq4])⟩
   case measure=>simp[intOf];omega
  ·go_wp2
   go_ret;exact⟨dy3 (int_eq (by rw[List.take_of_length_le (by have:=hr.yz;omega)];rfl)),rfl⟩
end
section
open Go Go.RowKit Go.Lib
theorem mw1 (g j:Nat) (x y:Int) (w:World) (hc:w.cell? ⟨g,j,none⟩=some (.int .i64 x)) (hz:w.frozen? ⟨g,j,none⟩=false):
  Calls Tryz.prog 159 #[.pointer (some ⟨g,j,none⟩),.int .i64 y] w fun e w'=>e=.returned (.tuple #[])∧w'=w.setCell ⟨g,j,none⟩ (.int .i64 y):=by
 have hst:=run_call_store (P:=Tryz.prog) Tryz.func234 (by kernel_rfl) (by kernel_rfl) (by kernel_rfl) (by kernel_rfl) (k:=.i64) (y:=y) hc hz;go_enter Tryz.func159,Tryz.ntmps159;go_wp2;exact bodyPost_end (v:=.tuple #[]) (by simp[results,go_sem]) rfl ⟨rfl,rfl⟩
theorem wv3 (g j:Nat) (x:Int) (w:World) (h0:0≤x) (h1:x≤1000000000) (hc:w.cell? ⟨g,j,none⟩=some (.int .i64 x)) (hz:w.frozen? ⟨g,j,none⟩=false):
  Calls Tryz.prog 147 #[.pointer (some ⟨g,j,none⟩),.int .i64 1] w fun e w'=>e=.returned (.int .i64 (x+1))∧w'=w.setCell ⟨g,j,none⟩ (.int .i64 (x+1)):=by
 have hwr:IntKind.i64.wrap (x+1)=x+1:=IntWalk.i64_in _ (by omega);have hadd:=run_call_add (P:=Tryz.prog) Tryz.func223 (by kernel_rfl) (by kernel_rfl) (by kernel_rfl) .i64 (by kernel_rfl) (y:=1) (s:=x+1) hc hz (by simp[go_sem,hwr]);go_enter Tryz.func147,Tryz.ntmps147;go_wp2;go_ret;exact⟨rfl,rfl⟩
end
end Go.Proofs.YthjdpplgfdihoaaGreatDoor
