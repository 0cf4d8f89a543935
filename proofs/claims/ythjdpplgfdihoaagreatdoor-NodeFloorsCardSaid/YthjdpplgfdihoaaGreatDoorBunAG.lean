/- Texts StateA, StateB, EditH, EditI, Del in one. No conditions. -/
import Derived.Test.YthjdpplgfdihoaaGreatDoorBunAA
import Derived.Test.YthjdpplgfdihoaaGreatDoorBunAF
import Derived.Deep.RegionLaw

set_option linter.unusedSimpArgs false
set_option linter.unusedVariables false
set_option maxRecDepth 100000
set_option maxHeartbeats 16000000
namespace Go.Proofs.YthjdpplgfdihoaaGreatDoor
section
open Go Go.RowKit
theorem ay2 {l:List It} (h:bq1 l) (x:It) {k:Nat} (hk:k < l.length):It.less l[k] x=decide (k < pos l x):=by
 obtain⟨h1,h2⟩:=vx1 h x
 rcases Nat.lt_or_ge k (pos l x) with h3|h3
 ·have:l[k]∈l.take (pos l x):=List.mem_take_iff_getElem.2 ⟨k,by omega,rfl⟩
  rw[h1]at this;simp[(List.mem_filter.1 this).2,h3]
 ·have:l[k]∈l.drop (pos l x):=List.mem_iff_getElem.2 ⟨k - pos l x,by simp;omega,by simp[Nat.add_sub_cancel' h3]⟩
  rw[h2]at this;have h4:=(List.mem_filter.1 this).2;simp only[Bool.not_eq_true']at h4;rw[h4];simp;omega
def pcmp (a b:It):Int:=if a.less b=true then -1 else 1
theorem ev2 (a b:It) (w:World):Calls Tryz.prog 303 #[a.val,b.val] w fun e w'=>e=.returned (.int .i64 (pcmp a b))∧Below w.heap.size w w':=by
 have hle:=fun W=>kk1 a b W;have hb0:=((Below.refl w.heap.size w).alloc (Nat.le_refl _) (.cells #[.int .i64 a.s,.int .i64 a.k,.int .u64 (a.t:Int),.int .u64 (a.v:Int),.int .i64 a.x] 36)).alloc (by simp) (.cells #[.int .i64 b.s,.int .i64 b.k,.int .u64 (b.t:Int),.int .u64 (b.v:Int),.int .i64 b.x] 36);unfold pcmp;unfold It.val at hle ⊢;generalize a.less b=p at *;have HL:=Lib.hid hle;clear hle;go_enter Tryz.func303,Tryz.ntmps303;go_wp2_with fail;refine(HL.out _).mono ?_;rintro e w1 ⟨rfl,hb1⟩;have hbz:=az hb0 hb1
 cases p
 all_goals
  go_wp2;go_ret;exact⟨rfl,hbz⟩
theorem pj2 (A:Option Addr) (n c:Nat) (l:List It) (x:It) (w:World) (hn:n≤1000000) (hR:bq1 l) (hr:Row w.heap.size w A n 5 (itc l)):
  Calls Tryz.prog 302 #[.slice A n c,x.val,.func (.func 303) #[] #[]] w fun e w'=>e=.returned (.tuple #[.int .i64 (pos l x:Int),.bool false])∧Below w.heap.size w w':=by
 have hnn:=hr.bj1;have hpl:=qj2 l x;have hbV:=(Below.refl w.heap.size w).alloc (Nat.le_refl _) (.cells #[.int .i64 x.s,.int .i64 x.k,.int .u64 (x.t:Int),.int .u64 (x.v:Int),.int .i64 x.x] 36);have hbx:=BoxO.new w #[.int .i64 x.s,.int .i64 x.k,.int .u64 (x.t:Int),.int .u64 (x.v:Int),.int .i64 x.x] 36;obtain⟨r,hrp⟩:∃r,r=pos l x:=⟨_,rfl⟩;rw[←hrp]at hpl ⊢;have HRP:=Lib.hid hrp;clear hrp;unfold It.val;go_enter Tryz.func302,Tryz.ntmps302;go_wp2_with fail;generalize w.alloc (.cells #[.int .i64 x.s,.int .i64 x.k,.int .u64 (x.t:Int),.int .u64 (x.v:Int),.int .i64 x.x] 36)=V at *;obtain⟨g,hg⟩:∃g,g=w.heap.size:=⟨_,rfl⟩;rw[←hg]at hbx ⊢;clear hg
 go_loopw [9,10] (fun i j wr=>∃p q:Nat,p≤r∧r≤q∧q≤n∧i=.int .i64 (p:Int)∧j=.int .i64 (q:Int)∧Below V.heap.size V wr) (fun i j _=>(intOf j).toNat - (intOf i).toNat)
 case atStart=>exact⟨0,n,Nat.zero_le _,by omega,Nat.le_refl _,rfl,rfl,Below.refl _ _⟩
 case round=>
  obtain⟨p,q,hp,hq,hqn,rfl,rfl,hbl⟩:=hrel;have hbz:∀w',Below wr.heap.size wr w'→Below V.heap.size V w':=fun w' h=>hbl.trans (h.mono hbl.size)
  by_cases hlt:p < q
  ·obtain⟨m,hm⟩:∃m,m=(p+q) / 2:=⟨_,rfl⟩
   have hm1:p≤m∧m < q:=by omega
   have hmn:(m:Int) < (n:Int):=by omega
   have hwm:IntKind.i64.wrap (m:Int)=(m:Int):=IntWalk.i64_in _ (by omega);have HMM:=Lib.hid (show ((p:Int)+(q:Int)) / 2=(m:Int) by omega);clear hm;obtain⟨a,hl,rfl,hbk,hd⟩:=((hr.below hbV).up hbV.size|>.below hbl).it (k:=m) (by omega);have hlp:=ay2 hR x hl;generalize l[m]=y at *;have hcm:=fun W=>ev2 y x W;unfold It.val pcmp at hcm;rw[hlp]at hcm;have hkc:∀w',Below wr.heap.size wr w'→(w'.cell? (a.add (m *5))=some (.int .i64 y.s)∧w'.cell? ⟨(a.add (m *5)).block,(a.add (m *5)).off+1,none⟩=some (.int .i64 y.k)∧w'.cell? ⟨(a.add (m *5)).block,(a.add (m *5)).off+2,none⟩=some (.int .u64 (y.t:Int))∧w'.cell? ⟨(a.add (m *5)).block,(a.add (m *5)).off+3,none⟩=some (.int .u64 (y.v:Int))∧w'.cell? ⟨(a.add (m *5)).block,(a.add (m *5)).off+4,none⟩=some (.int .i64 y.x))∧w'.cell? ⟨g,0,none⟩=some (.int .i64 x.s)∧w'.cell? ⟨g,1,none⟩=some (.int .i64 x.k)∧w'.cell? ⟨g,2,none⟩=some (.int .u64 (x.t:Int))∧w'.cell? ⟨g,3,none⟩=some (.int .u64 (x.v:Int))∧w'.cell? ⟨g,4,none⟩=some (.int .i64 x.x):=fun w' hb=>by
    have h1:=hd.below (B:=wr.heap.size) (w':=w') (Nat.lt_of_lt_of_le hbk hbl.size) hb;have h2:=(hbx.below hbl).below hb;exact⟨⟨h1.c0,h1.c1,h1.c2,h1.c3,h1.c4⟩,h2.cell 0,h2.cell 1,h2.cell 2,h2.cell 3,h2.cell 4⟩
   have KC:=Lib.hid hkc;have HL:=Lib.hid hcm;clear hkc hcm hd hlp;rw[←HRP.out]at HL;obtain⟨b,hb⟩:∃b,b=decide (m < r):=⟨_,rfl⟩;rw[←hb]at HL;go_wp2_with fail;rw[HMM.out];refine wp_region_held_drew (S:=fun w'=>Below wr.heap.size wr w') rfl (ak (Below.refl _ _)) (fun hSw=>?_);refine wpT (i:=0) (v:=?vrb0) ?hrb0 hSw ?krb0
   case hrb0=>(intro w hSw;(obtain⟨⟨c0,c1,c2,c3,c4⟩,d0,d1,d2,d3,d4⟩:=KC.out w hSw);go_simp;try (with_reducible rfl))
   go_simp;refine wpT (i:=1) (v:=?vrb1) ?hrb1 hSw ?krb1
   case hrb1=>(intro w hSw;(obtain⟨⟨c0,c1,c2,c3,c4⟩,d0,d1,d2,d3,d4⟩:=KC.out w hSw);go_simp;try (with_reducible rfl))
   go_simp;refine wpT (i:=2) (v:=?vrb2) ?hrb2 hSw ?krb2
   case hrb2=>(intro w hSw;(obtain⟨⟨c0,c1,c2,c3,c4⟩,d0,d1,d2,d3,d4⟩:=KC.out w hSw);go_simp;try (with_reducible rfl))
   go_simp;refine wpT (i:=3) (v:=?vrb3) ?hrb3 hSw ?krb3
   case hrb3=>(intro w hSw;(obtain⟨⟨c0,c1,c2,c3,c4⟩,d0,d1,d2,d3,d4⟩:=KC.out w hSw);go_simp;try (with_reducible rfl))
   go_simp;refine wpT (i:=4) (v:=?vrb4) ?hrb4 hSw ?krb4
   case hrb4=>(intro w hSw;(obtain⟨⟨c0,c1,c2,c3,c4⟩,d0,d1,d2,d3,d4⟩:=KC.out w hSw);go_simp;try (with_reducible rfl))
   go_simp;refine wpT (i:=5) (v:=?vrb5) ?hrb5 hSw ?krb5
   case hrb5=>(intro w hSw;(obtain⟨⟨c0,c1,c2,c3,c4⟩,d0,d1,d2,d3,d4⟩:=KC.out w hSw);go_simp;try (with_reducible rfl))
   go_simp;refine wpAnyH_ready (rs:=[6]) (by kernel_rfl) (by simp) ?_;refine AllReadyH.cons rfl (fun K hK=>?_) AllReadyH.nil;go_simp
   with_reducible refine(HL.out _).mono ?_
   rintro e w1 ⟨rfl,hb1⟩;go_simp;refine hK.out _ _ (hSw.trans (hb1.mono hSw.size)) (fun hSn=>?_);clear hK K hSw;have hSw:=hSn;clear hSn;go_simp;refine wpT (i:=7) (v:=?vrb7) ?hrb7 hSw ?krb7
   case hrb7=>(intro w hSw;(obtain⟨⟨c0,c1,c2,c3,c4⟩,d0,d1,d2,d3,d4⟩:=KC.out w hSw);go_simp;try (with_reducible rfl))
   go_simp;refine wpAnyH_done (by kernel_rfl) ?_ _;have hby:=hbz _ hSw;clear hSw KC HL
   cases b with
   |true=>
    have hmr:m < r:=by simpa using hb.symm
    go_wp2;go_roundw
    case rel=>exact⟨m+1,q,by omega,hq,hqn,by go_num,rfl,hby⟩
    case measure=>simp[intOf];omega
   |false=>
    have hmr:¬m < r:=by simpa using hb.symm
    go_wp2;go_roundw
    case rel=>exact⟨p,m,hp,by omega,by omega,rfl,rfl,hby⟩
    case measure=>simp[intOf];omega
  ·have hpr:p=r:=by omega
   subst hpr;have hno:((p:Int) < (q:Int))=False:=eq_false (by omega)
   by_cases hpn:p < n
   ·have hpn2:(p:Int) < (n:Int):=by omega
    obtain⟨a,hl,rfl,hbk,hd⟩:=((hr.below hbV).up hbV.size|>.below hbl).it (k:=p) (by omega);have hlp:=ay2 hR x hl;generalize l[p]=y at *;have hcm:=fun W=>ev2 y x W;unfold It.val pcmp at hcm;rw[hlp]at hcm;have hkc:∀w',Below wr.heap.size wr w'→(w'.cell? (a.add (p *5))=some (.int .i64 y.s)∧w'.cell? ⟨(a.add (p *5)).block,(a.add (p *5)).off+1,none⟩=some (.int .i64 y.k)∧w'.cell? ⟨(a.add (p *5)).block,(a.add (p *5)).off+2,none⟩=some (.int .u64 (y.t:Int))∧w'.cell? ⟨(a.add (p *5)).block,(a.add (p *5)).off+3,none⟩=some (.int .u64 (y.v:Int))∧w'.cell? ⟨(a.add (p *5)).block,(a.add (p *5)).off+4,none⟩=some (.int .i64 y.x))∧w'.cell? ⟨g,0,none⟩=some (.int .i64 x.s)∧w'.cell? ⟨g,1,none⟩=some (.int .i64 x.k)∧w'.cell? ⟨g,2,none⟩=some (.int .u64 (x.t:Int))∧w'.cell? ⟨g,3,none⟩=some (.int .u64 (x.v:Int))∧w'.cell? ⟨g,4,none⟩=some (.int .i64 x.x):=fun w' hb=>by
     have h1:=hd.below (B:=wr.heap.size) (w':=w') (Nat.lt_of_lt_of_le hbk hbl.size) hb;have h2:=(hbx.below hbl).below hb;exact⟨⟨h1.c0,h1.c1,h1.c2,h1.c3,h1.c4⟩,h2.cell 0,h2.cell 1,h2.cell 2,h2.cell 3,h2.cell 4⟩
    have KC:=Lib.hid hkc;have HL:=Lib.hid hcm;clear hkc hcm hd hlp;rw[←HRP.out]at HL;simp only[Nat.lt_irrefl,decide_false,Bool.false_eq_true,if_false]at HL;go_wp2_with fail;refine wp_region_held_drew (S:=fun w'=>Below wr.heap.size wr w') rfl (ak (Below.refl _ _)) (fun hSw=>?_);refine wpT (i:=0) (v:=?vrc0) ?hrc0 hSw ?krc0
    case hrc0=>(intro w hSw;(obtain⟨⟨c0,c1,c2,c3,c4⟩,d0,d1,d2,d3,d4⟩:=KC.out w hSw);go_simp;try (with_reducible rfl))
    go_simp;refine wpT (i:=1) (v:=?vrc1) ?hrc1 hSw ?krc1
    case hrc1=>(intro w hSw;(obtain⟨⟨c0,c1,c2,c3,c4⟩,d0,d1,d2,d3,d4⟩:=KC.out w hSw);go_simp;try (with_reducible rfl))
    go_simp;refine wpT (i:=2) (v:=?vrc2) ?hrc2 hSw ?krc2
    case hrc2=>(intro w hSw;(obtain⟨⟨c0,c1,c2,c3,c4⟩,d0,d1,d2,d3,d4⟩:=KC.out w hSw);go_simp;try (with_reducible rfl))
    go_simp;refine wpT (i:=3) (v:=?vrc3) ?hrc3 hSw ?krc3
    case hrc3=>(intro w hSw;(obtain⟨⟨c0,c1,c2,c3,c4⟩,d0,d1,d2,d3,d4⟩:=KC.out w hSw);go_simp;try (with_reducible rfl))
    go_simp;refine wpT (i:=4) (v:=?vrc4) ?hrc4 hSw ?krc4
    case hrc4=>(intro w hSw;(obtain⟨⟨c0,c1,c2,c3,c4⟩,d0,d1,d2,d3,d4⟩:=KC.out w hSw);go_simp;try (with_reducible rfl))
    go_simp;refine wpT (i:=5) (v:=?vrc5) ?hrc5 hSw ?krc5
    case hrc5=>(intro w hSw;(obtain⟨⟨c0,c1,c2,c3,c4⟩,d0,d1,d2,d3,d4⟩:=KC.out w hSw);go_simp;try (with_reducible rfl))
    go_simp;refine wpT (i:=6) (v:=?vrc6) ?hrc6 hSw ?krc6
    case hrc6=>(intro w hSw;(obtain⟨⟨c0,c1,c2,c3,c4⟩,d0,d1,d2,d3,d4⟩:=KC.out w hSw);go_simp;try (with_reducible rfl))
    go_simp;refine wpT (i:=7) (v:=?vrc7) ?hrc7 hSw ?krc7
    case hrc7=>(intro w hSw;(obtain⟨⟨c0,c1,c2,c3,c4⟩,d0,d1,d2,d3,d4⟩:=KC.out w hSw);go_simp;try (with_reducible rfl))
    go_simp;refine wpT (i:=8) (v:=?vrc8) ?hrc8 hSw ?krc8
    case hrc8=>(intro w hSw;(obtain⟨⟨c0,c1,c2,c3,c4⟩,d0,d1,d2,d3,d4⟩:=KC.out w hSw);go_simp;try (with_reducible rfl))
    go_simp;refine wpT (i:=9) (v:=?vrc9) ?hrc9 hSw ?krc9
    case hrc9=>(intro w hSw;(obtain⟨⟨c0,c1,c2,c3,c4⟩,d0,d1,d2,d3,d4⟩:=KC.out w hSw);go_simp;try (with_reducible rfl))
    go_simp;refine wpT (i:=10) (v:=?vrc10) ?hrc10 hSw ?krc10
    case hrc10=>(intro w hSw;(obtain⟨⟨c0,c1,c2,c3,c4⟩,d0,d1,d2,d3,d4⟩:=KC.out w hSw);go_simp;try (with_reducible rfl))
    go_simp;refine wpAnyH_ready (rs:=[11]) (by kernel_rfl) (by simp) ?_;refine AllReadyH.cons rfl (fun K hK=>?_) AllReadyH.nil;go_simp
    with_reducible refine(HL.out _).mono ?_
    rintro e w1 ⟨rfl,hb1⟩;go_simp;refine hK.out _ _ (hSw.trans (hb1.mono hSw.size)) (fun hSn=>?_);clear hK K hSw;have hSw:=hSn;clear hSn;go_simp;refine wpT (i:=12) (v:=?vrc12) ?hrc12 hSw ?krc12
    case hrc12=>(intro w hSw;(obtain⟨⟨c0,c1,c2,c3,c4⟩,d0,d1,d2,d3,d4⟩:=KC.out w hSw);go_simp;try (with_reducible rfl))
    go_simp;refine wpT (i:=13) (v:=?vrc13) ?hrc13 hSw ?krc13
    case hrc13=>(intro w hSw;(obtain⟨⟨c0,c1,c2,c3,c4⟩,d0,d1,d2,d3,d4⟩:=KC.out w hSw);go_simp;try (with_reducible rfl))
    go_simp;refine wpT (i:=14) (v:=?vrc14) ?hrc14 hSw ?krc14
    case hrc14=>(intro w hSw;(obtain⟨⟨c0,c1,c2,c3,c4⟩,d0,d1,d2,d3,d4⟩:=KC.out w hSw);go_simp;try (with_reducible rfl))
    go_simp;refine wpT (i:=15) (v:=?vrc15) ?hrc15 hSw ?krc15
    case hrc15=>(intro w hSw;(obtain⟨⟨c0,c1,c2,c3,c4⟩,d0,d1,d2,d3,d4⟩:=KC.out w hSw);go_simp;try (with_reducible rfl))
    go_simp;refine wpAnyH_done (by kernel_rfl) ?_ _;have hby:=az hbV (hbz _ hSw);clear hSw KC HL;go_wp2;go_ret2;exact⟨rfl,hby⟩
   ·have hpn2:((p:Int) < (n:Int))=False:=eq_false (by omega)
    go_wp2_with fail;refine wp_region_held_drew (S:=fun w'=>Below wr.heap.size wr w') rfl (ak (Below.refl _ _)) (fun hSw=>?_);refine wpT (i:=0) (v:=?vrm0) ?hrm0 hSw ?krm0
    case hrm0=>(intro w hSw;skip;go_simp;try (with_reducible rfl))
    go_simp;refine wpT (i:=1) (v:=?vrm1) ?hrm1 hSw ?krm1
    case hrm1=>(intro w hSw;skip;go_simp;try (with_reducible rfl))
    go_simp;refine wpT (i:=2) (v:=?vrm2) ?hrm2 hSw ?krm2
    case hrm2=>(intro w hSw;skip;go_simp;try (with_reducible rfl))
    go_simp;refine wpT (i:=3) (v:=?vrm3) ?hrm3 hSw ?krm3
    case hrm3=>(intro w hSw;skip;go_simp;try (with_reducible rfl))
    go_simp;refine wpT (i:=4) (v:=?vrm4) ?hrm4 hSw ?krm4
    case hrm4=>(intro w hSw;skip;go_simp;try (with_reducible rfl))
    go_simp;refine wpT0 (i:=5) hSw ?_;go_simp;refine wpT0 (i:=6) hSw ?_;go_simp;refine wpT0 (i:=7) hSw ?_;go_simp;refine wpT0 (i:=8) hSw ?_;go_simp;refine wpT0 (i:=9) hSw ?_;go_simp;refine wpT0 (i:=10) hSw ?_;go_simp;refine wpT0 (i:=11) hSw ?_;go_simp;refine wpT0 (i:=12) hSw ?_;go_simp;refine wpT (i:=13) (v:=?vrm13) ?hrm13 hSw ?krm13
    case hrm13=>(intro w hSw;skip;go_simp;try (with_reducible rfl))
    go_simp;refine wpT (i:=14) (v:=?vrm14) ?hrm14 hSw ?krm14
    case hrm14=>(intro w hSw;skip;go_simp;try (with_reducible rfl))
    go_simp;refine wpT (i:=15) (v:=?vrm15) ?hrm15 hSw ?krm15
    case hrm15=>(intro w hSw;skip;go_simp;try (with_reducible rfl))
    go_simp;refine wpAnyH_done (by kernel_rfl) ?_ _;have hby:=az hbV (hbz _ hSw);go_wp2;go_ret2;exact⟨rfl,hby⟩
theorem ux2 {l:List It} (h:bq1 l) (x:It) (hk:pos l x < l.length):It.same l[pos l x] x=l.any (fun y=>It.same y x):=by
 cases hs:It.same l[pos l x] x with
 |true=>exact(List.any_eq_true.2 ⟨_,List.getElem_mem _,hs⟩).symm
 |false=>
  symm
  rw[List.any_eq_false];intro y hy hsy;obtain⟨i,hi,rfl⟩:=List.getElem_of_mem hy;have h1:=ay2 h x hi;have h2:=ay2 h x hk;rw[It.same_iff]at hsy;have h3:It.less l[i] x=false:=by rw[It.jv1];omega
  rw[h3]at h1;have h4:pos l x≤i:=by simpa using h1.symm
  rcases Nat.lt_or_ge (pos l x) i with h5|h5
  ·have h6:=List.pairwise_iff_getElem.1 h _ _ hk hi h5
   have h7:It.less l[pos l x] x=false:=by rw[h2];simp
   rw[It.xy]at h6;rw[It.jv1]at h7;omega
  ·have h6:i=pos l x:=by omega
   subst h6;have:It.same l[pos l x] x=true:=by rw[It.same_iff];exact hsy
   rw[hs]at this
   cases this
theorem yv1 {l:List It} (h:bq1 l) (x:It) (hk:¬pos l x < l.length):l.any (fun y=>It.same y x)=false:=by
 rw[List.any_eq_false];intro y hy hsy;obtain⟨i,hi,rfl⟩:=List.getElem_of_mem hy;have h1:=ay2 h x hi;rw[It.same_iff]at hsy;have h3:It.less l[i] x=false:=by rw[It.jv1];omega
 rw[h3]at h1;have h4:pos l x≤i:=by simpa using h1.symm
 omega
theorem pv2 (A:Option Addr) (n c:Nat) (l:List It) (x:It) (w:World) (hn:n≤1000000) (hR:bq1 l) (hr:Row w.heap.size w A n 5 (itc l)):
  Calls Tryz.prog 243 #[.slice A n c,x.val] w fun e w'=>e=.returned (.tuple #[.int .i64 (pos l x:Int),.bool (l.any fun y=>y.same x)])∧Below w.heap.size w w':=by
 have hnn:=hr.bj1;have hpl:=qj2 l x;have hbV:=(Below.refl w.heap.size w).alloc (Nat.le_refl _) (.cells #[.int .i64 x.s,.int .i64 x.k,.int .u64 (x.t:Int),.int .u64 (x.v:Int),.int .i64 x.x] 36);have hbx:=BoxO.new w #[.int .i64 x.s,.int .i64 x.k,.int .u64 (x.t:Int),.int .u64 (x.v:Int),.int .i64 x.x] 36;have hbs:=pj2 A n c l x (w.alloc (.cells #[.int .i64 x.s,.int .i64 x.k,.int .u64 (x.t:Int),.int .u64 (x.v:Int),.int .i64 x.x] 36)) hn hR ((hr.below hbV).up hbV.size);unfold It.val at hbs ⊢;have hon:=fun h=>ux2 hR x h;have hoff:=yv1 hR x;generalize (l.any fun y=>y.same x)=b at *;generalize hrp:pos l x=r at *;have HON:=Lib.hid hon;have HOFF:=Lib.hid hoff;have HRP:=Lib.hid hrp;clear hon hoff hrp;have HBS:=Lib.hid hbs;clear hbs;go_enter Tryz.func243,Tryz.ntmps243;go_wp2_with fail;refine HBS.out.mono ?_;rintro e W ⟨rfl,hbl⟩;generalize w.alloc (.cells #[.int .i64 x.s,.int .i64 x.k,.int .u64 (x.t:Int),.int .u64 (x.v:Int),.int .i64 x.x] 36)=V at *;obtain⟨g,hg⟩:∃g,g=w.heap.size:=⟨_,rfl⟩;rw[←hg]at hbx ⊢;clear hg HBS
 by_cases hrn:r < n
 ·have hrn2:(r:Int) < (n:Int):=by omega
  obtain⟨a,hl,rfl,hbk,hd⟩:=((hr.below hbV).up hbV.size|>.below hbl).it (k:=r) (by omega);have hsm:=HON.out (by omega);generalize l[r]=y at *;have hcm:=fun W=>vw2 y x W;unfold It.val at hcm;rw[hsm]at hcm;have hkc:∀w',Below W.heap.size W w'→(w'.cell? (a.add (r *5))=some (.int .i64 y.s)∧w'.cell? ⟨(a.add (r *5)).block,(a.add (r *5)).off+1,none⟩=some (.int .i64 y.k)∧w'.cell? ⟨(a.add (r *5)).block,(a.add (r *5)).off+2,none⟩=some (.int .u64 (y.t:Int))∧w'.cell? ⟨(a.add (r *5)).block,(a.add (r *5)).off+3,none⟩=some (.int .u64 (y.v:Int))∧w'.cell? ⟨(a.add (r *5)).block,(a.add (r *5)).off+4,none⟩=some (.int .i64 y.x))∧w'.cell? ⟨g,0,none⟩=some (.int .i64 x.s)∧w'.cell? ⟨g,1,none⟩=some (.int .i64 x.k)∧w'.cell? ⟨g,2,none⟩=some (.int .u64 (x.t:Int))∧w'.cell? ⟨g,3,none⟩=some (.int .u64 (x.v:Int))∧w'.cell? ⟨g,4,none⟩=some (.int .i64 x.x):=fun w' hb=>by
   have h1:=hd.below (B:=W.heap.size) (w':=w') (Nat.lt_of_lt_of_le hbk hbl.size) hb;have h2:=(hbx.below hbl).below hb;exact⟨⟨h1.c0,h1.c1,h1.c2,h1.c3,h1.c4⟩,h2.cell 0,h2.cell 1,h2.cell 2,h2.cell 3,h2.cell 4⟩
  have KC:=Lib.hid hkc;have HL:=Lib.hid hcm;clear hkc hcm hd hsm;go_wp2_with fail;refine wp_region_held_drew (S:=fun w'=>Below W.heap.size W w') rfl (ak (Below.refl _ _)) (fun hSw=>?_);refine wpT (i:=0) (v:=?vrd0) ?hrd0 hSw ?krd0
  case hrd0=>(intro w hSw;(obtain⟨⟨c0,c1,c2,c3,c4⟩,d0,d1,d2,d3,d4⟩:=KC.out w hSw);go_simp;try (with_reducible rfl))
  go_simp;refine wpT (i:=1) (v:=?vrd1) ?hrd1 hSw ?krd1
  case hrd1=>(intro w hSw;(obtain⟨⟨c0,c1,c2,c3,c4⟩,d0,d1,d2,d3,d4⟩:=KC.out w hSw);go_simp;try (with_reducible rfl))
  go_simp;refine wpT (i:=2) (v:=?vrd2) ?hrd2 hSw ?krd2
  case hrd2=>(intro w hSw;(obtain⟨⟨c0,c1,c2,c3,c4⟩,d0,d1,d2,d3,d4⟩:=KC.out w hSw);go_simp;try (with_reducible rfl))
  go_simp;refine wpT (i:=3) (v:=?vrd3) ?hrd3 hSw ?krd3
  case hrd3=>(intro w hSw;(obtain⟨⟨c0,c1,c2,c3,c4⟩,d0,d1,d2,d3,d4⟩:=KC.out w hSw);go_simp;try (with_reducible rfl))
  go_simp;refine wpT (i:=4) (v:=?vrd4) ?hrd4 hSw ?krd4
  case hrd4=>(intro w hSw;(obtain⟨⟨c0,c1,c2,c3,c4⟩,d0,d1,d2,d3,d4⟩:=KC.out w hSw);go_simp;try (with_reducible rfl))
  go_simp;refine wpT (i:=5) (v:=?vrd5) ?hrd5 hSw ?krd5
  case hrd5=>(intro w hSw;(obtain⟨⟨c0,c1,c2,c3,c4⟩,d0,d1,d2,d3,d4⟩:=KC.out w hSw);go_simp;try (with_reducible rfl))
  go_simp;refine wpT (i:=6) (v:=?vrd6) ?hrd6 hSw ?krd6
  case hrd6=>(intro w hSw;(obtain⟨⟨c0,c1,c2,c3,c4⟩,d0,d1,d2,d3,d4⟩:=KC.out w hSw);go_simp;try (with_reducible rfl))
  go_simp;refine wpT (i:=7) (v:=?vrd7) ?hrd7 hSw ?krd7
  case hrd7=>(intro w hSw;(obtain⟨⟨c0,c1,c2,c3,c4⟩,d0,d1,d2,d3,d4⟩:=KC.out w hSw);go_simp;try (with_reducible rfl))
  go_simp;refine wpT (i:=8) (v:=?vrd8) ?hrd8 hSw ?krd8
  case hrd8=>(intro w hSw;(obtain⟨⟨c0,c1,c2,c3,c4⟩,d0,d1,d2,d3,d4⟩:=KC.out w hSw);go_simp;try (with_reducible rfl))
  go_simp;refine wpT (i:=9) (v:=?vrd9) ?hrd9 hSw ?krd9
  case hrd9=>(intro w hSw;(obtain⟨⟨c0,c1,c2,c3,c4⟩,d0,d1,d2,d3,d4⟩:=KC.out w hSw);go_simp;try (with_reducible rfl))
  go_simp;refine wpT (i:=10) (v:=?vrd10) ?hrd10 hSw ?krd10
  case hrd10=>(intro w hSw;(obtain⟨⟨c0,c1,c2,c3,c4⟩,d0,d1,d2,d3,d4⟩:=KC.out w hSw);go_simp;try (with_reducible rfl))
  go_simp;refine wpAnyH_ready (rs:=[11]) (by kernel_rfl) (by simp) ?_;refine AllReadyH.cons rfl (fun K hK=>?_) AllReadyH.nil;go_simp
  with_reducible refine(HL.out _).mono ?_
  rintro e w1 ⟨rfl,hb1⟩;go_simp;refine hK.out _ _ (hSw.trans (hb1.mono hSw.size)) (fun hSn=>?_);clear hK K hSw;have hSw:=hSn;clear hSn;go_simp;refine wpT (i:=12) (v:=?vrd12) ?hrd12 hSw ?krd12
  case hrd12=>(intro w hSw;(obtain⟨⟨c0,c1,c2,c3,c4⟩,d0,d1,d2,d3,d4⟩:=KC.out w hSw);go_simp;try (with_reducible rfl))
  go_simp;refine wpT (i:=13) (v:=?vrd13) ?hrd13 hSw ?krd13
  case hrd13=>(intro w hSw;(obtain⟨⟨c0,c1,c2,c3,c4⟩,d0,d1,d2,d3,d4⟩:=KC.out w hSw);go_simp;try (with_reducible rfl))
  go_simp;refine wpT (i:=14) (v:=?vrd14) ?hrd14 hSw ?krd14
  case hrd14=>(intro w hSw;(obtain⟨⟨c0,c1,c2,c3,c4⟩,d0,d1,d2,d3,d4⟩:=KC.out w hSw);go_simp;try (with_reducible rfl))
  go_simp;refine wpAnyH_done (by kernel_rfl) ?_ _;have hby:=az hbV (hbl.trans (hSw.mono hbl.size));clear hSw KC HL;go_wp2;go_ret2;exact⟨rfl,hby⟩
 ·have hbf:=HOFF.out (by omega)
  have hbf:=hbf;subst hbf;have hrn2:((r:Int) < (n:Int))=False:=eq_false (by omega);go_wp2_with fail;refine wp_region_held_drew (S:=fun w'=>Below W.heap.size W w') rfl (ak (Below.refl _ _)) (fun hSw=>?_);refine wpT (i:=0) (v:=?vre0) ?hre0 hSw ?kre0
  case hre0=>(intro w hSw;skip;go_simp;try (with_reducible rfl))
  go_simp;refine wpT (i:=1) (v:=?vre1) ?hre1 hSw ?kre1
  case hre1=>(intro w hSw;skip;go_simp;try (with_reducible rfl))
  go_simp;refine wpT (i:=2) (v:=?vre2) ?hre2 hSw ?kre2
  case hre2=>(intro w hSw;skip;go_simp;try (with_reducible rfl))
  go_simp;refine wpT (i:=3) (v:=?vre3) ?hre3 hSw ?kre3
  case hre3=>(intro w hSw;skip;go_simp;try (with_reducible rfl))
  go_simp;refine wpT (i:=4) (v:=?vre4) ?hre4 hSw ?kre4
  case hre4=>(intro w hSw;skip;go_simp;try (with_reducible rfl))
  go_simp;refine wpT (i:=5) (v:=?vre5) ?hre5 hSw ?kre5
  case hre5=>(intro w hSw;skip;go_simp;try (with_reducible rfl))
  go_simp;refine wpT0 (i:=6) hSw ?_;go_simp;refine wpT0 (i:=7) hSw ?_;go_simp;refine wpT0 (i:=8) hSw ?_;go_simp;refine wpT0 (i:=9) hSw ?_;go_simp;refine wpT0 (i:=10) hSw ?_;go_simp;refine wpT0 (i:=11) hSw ?_;go_simp;refine wpT (i:=12) (v:=?vre12) ?hre12 hSw ?kre12
  case hre12=>(intro w hSw;skip;go_simp;try (with_reducible rfl))
  go_simp;refine wpT (i:=13) (v:=?vre13) ?hre13 hSw ?kre13
  case hre13=>(intro w hSw;skip;go_simp;try (with_reducible rfl))
  go_simp;refine wpT (i:=14) (v:=?vre14) ?hre14 hSw ?kre14
  case hre14=>(intro w hSw;skip;go_simp;try (with_reducible rfl))
  go_simp;refine wpAnyH_done (by kernel_rfl) ?_ _;have hby:=az hbV (hbl.trans (hSw.mono hbl.size));go_wp2;go_ret2;exact⟨rfl,hby⟩
end
section
open Go Go.RowKit
def It.none_:It:=⟨0,0,0,0,0⟩
def tkey (s:Int):It:=⟨s,1,0,0,0⟩
theorem bx3 {l:List It} (h:bq1 l) (hk:∀y∈l,y.ok=true) (x y:It) (hy:(l.any fun y=>y.same (tkey x.s))=true→y∈l∧y.same (tkey x.s)=true):hidden l x=((l.any fun y=>y.same (tkey x.s)) &&y.hides x):=by
 unfold hidden;have hs:∀t∈l,t.hides x=true→t.same (tkey x.s)=true:=fun t ht hh=>by
  have h1:=hk t ht;rw[It.iv3]at h1;rw[It.fx1]at hh;rw[It.same_iff];unfold tkey;simp only;omega
 cases hb:l.any fun y=>y.same (tkey x.s) with
 |false=>
  rw[Bool.false_and,List.any_eq_false];intro t ht hh;exact(List.any_eq_false.1 hb) t ht (hs t ht hh)
 |true=>
  obtain⟨h1,h2⟩:=hy hb;rw[Bool.true_and]
  cases hh:y.hides x with
  |true=>exact List.any_eq_true.2 ⟨y,h1,hh⟩
  |false=>
   rw[List.any_eq_false];intro t ht hth;have h3:=hs t ht hth;have:t=y:=kv1 h ht h1 (by rw[It.same_iff]at *;omega);rw[this,hh]at hth
   cases hth
theorem fx4 (A:Option Addr) (n c:Nat) (l:List It) (s:Int) (w:World) (hn:n≤1000000) (hR:bq1 l) (hr:Row w.heap.size w A n 5 (itc l)):
  Calls Tryz.prog 301 #[.slice A n c,.int .i64 s] w fun e w'=>∃y:It,e=.returned (.tuple #[y.val,.bool (l.any fun y=>y.same (tkey s))])∧((l.any fun y=>y.same (tkey s))=true→y∈l∧y.same (tkey s)=true)∧Below w.heap.size w w':=by
 have hnn:=hr.bj1;have hbV:=(Below.refl w.heap.size w).alloc (Nat.le_refl _) (.cells #[.int .i64 0,.int .i64 0,.int .u64 0,.int .u64 0,.int .i64 0] 36);have hbx:=BoxO.new w #[.int .i64 0,.int .i64 0,.int .u64 0,.int .u64 0,.int .i64 0] 36;have hpl:=pv2 A n c l (tkey s) (w.alloc (.cells #[.int .i64 0,.int .i64 0,.int .u64 0,.int .u64 0,.int .i64 0] 36)) hn hR ((hr.below hbV).up hbV.size);have hon:=fun h=>ux2 hR (tkey s) h;have hoff:=yv1 hR (tkey s);generalize (l.any fun y=>y.same (tkey s))=b at *;generalize pos l (tkey s)=r at *;unfold It.val tkey at hpl;unfold It.val;have HPL:=Lib.hid hpl;have HON:=Lib.hid hon;have HOFF:=Lib.hid hoff;clear hpl hon hoff;go_enter Tryz.func301,Tryz.ntmps301;go_wp2_with fail;refine HPL.out.mono ?_;rintro e W ⟨rfl,hbl⟩;generalize w.alloc (.cells #[.int .i64 0,.int .i64 0,.int .u64 0,.int .u64 0,.int .i64 0] 36)=V at *;obtain⟨g,hg⟩:∃g,g=w.heap.size:=⟨_,rfl⟩;have hgb:w.heap.size≤g:=by omega
 rw[←hg]at hbx ⊢;clear hg HPL;have hbW:=hbx.below hbl;have b0:=hbW.cell 0;have b1:=hbW.cell 1;have b2:=hbW.cell 2;have b3:=hbW.cell 3;have b4:=hbW.cell 4;have z0:=hbW.free 0;have z1:=hbW.free 1;have z2:=hbW.free 2;have z3:=hbW.free 3;have z4:=hbW.free 4;have hbz:=az hbV hbl;simp only[gE0,gE1]at b0 b1 b2 b3 b4
 cases b with
 |false=>
  go_wp2;refine bodyPost_ret (v:=.tuple #[.agg #[.int .i64 0,.int .i64 0,.int .u64 0,.int .u64 0,.int .i64 0],.bool false]) (by simp[results,go_sem, *]) rfl ⟨It.none_,rfl,(fun h=>by cases h),?_⟩;exact((((hbz.setCell (p:=⟨g,0,none⟩) hgb _).setCell (p:=⟨g,1,none⟩) hgb _).setCell (p:=⟨g,2,none⟩) hgb _).setCell (p:=⟨g,3,none⟩) hgb _).setCell (p:=⟨g,4,none⟩) hgb _
 |true=>
  have hrn:r < n:=by
   rcases Nat.lt_or_ge r l.length with h|h
   ·omega
   ·have:=HOFF.out (by omega)
    cases this
  obtain⟨a,hl,rfl,hbk,hd⟩:=((hr.below hbV).up hbV.size|>.below hbl).it (k:=r) hrn;obtain⟨c0,c1,c2,c3,c4⟩:=hd;have hsm:=HON.out hl;have hmem:=List.getElem_mem hl;generalize l[r]=y at *;have HS:=Lib.hid (And.intro hmem hsm);have hrn2:(r:Int) < (n:Int):=by omega
  clear hmem hsm HON HOFF;go_wp2;refine bodyPost_ret (v:=.tuple #[.agg #[.int .i64 y.s,.int .i64 y.k,.int .u64 (y.t:Int),.int .u64 (y.v:Int),.int .i64 y.x],.bool true]) (by simp[results,go_sem, *]) rfl ⟨y,rfl,HS.out,?_⟩;exact((((hbz.setCell (p:=⟨g,0,none⟩) hgb _).setCell (p:=⟨g,1,none⟩) hgb _).setCell (p:=⟨g,2,none⟩) hgb _).setCell (p:=⟨g,3,none⟩) hgb _).setCell (p:=⟨g,4,none⟩) hgb _
theorem cv2 (A:Option Addr) (n c:Nat) (l:List It) (x:It) (w:World) (hn:n≤1000000) (hR:bq1 l) (hk:∀y∈l,y.ok=true) (hr:Row w.heap.size w A n 5 (itc l)):
  Calls Tryz.prog 242 #[.slice A n c,x.val] w fun e w'=>e=.returned (.bool (hidden l x))∧Below w.heap.size w w':=by
 have hbV:=(Below.refl w.heap.size w).alloc (Nat.le_refl _) (.cells #[.int .i64 x.s,.int .i64 x.k,.int .u64 (x.t:Int),.int .u64 (x.v:Int),.int .i64 x.x] 36);have hbx:=BoxO.new w #[.int .i64 x.s,.int .i64 x.k,.int .u64 (x.t:Int),.int .u64 (x.v:Int),.int .i64 x.x] 36;have htb:=fx4 A n c l x.s (w.alloc (.cells #[.int .i64 x.s,.int .i64 x.k,.int .u64 (x.t:Int),.int .u64 (x.v:Int),.int .i64 x.x] 36)) hn hR ((hr.below hbV).up hbV.size);have hht:=fun y=>bx3 hR hk x y;obtain⟨r,hrp⟩:∃r,r=hidden l x:=⟨_,rfl⟩;rw[←hrp];simp only[←hrp]at hht;unfold It.val at htb ⊢;generalize (l.any fun y=>y.same (tkey x.s))=b at *;have HTB:=Lib.hid htb;have HHT:=Lib.hid hht;clear htb hht hrp;go_enter Tryz.func242,Tryz.ntmps242;go_wp2_with fail;refine HTB.out.mono ?_;rintro e W ⟨y,rfl,hy,hbl⟩;have hh:=HHT.out y hy;generalize w.alloc (.cells #[.int .i64 x.s,.int .i64 x.k,.int .u64 (x.t:Int),.int .u64 (x.v:Int),.int .i64 x.x] 36)=V at *;obtain⟨g,hg⟩:∃g,g=w.heap.size:=⟨_,rfl⟩;rw[←hg]at hbx ⊢;clear hg HTB HHT hy;have hbz:=az hbV hbl;have hbW:=hbx.below hbl;have hbo:=(Below.refl W.heap.size W).alloc (Nat.le_refl _) (.cells #[.int .i64 y.s,.int .i64 y.k,.int .u64 (y.t:Int),.int .u64 (y.v:Int),.int .i64 y.x] 36);have b0:=(hbW.below hbo).cell 0;have b1:=(hbW.below hbo).cell 1;have b2:=(hbW.below hbo).cell 2;have b3:=(hbW.below hbo).cell 3;have b4:=(hbW.below hbo).cell 4;simp only[gE0,gE1]at b0 b1 b2 b3 b4;have HH:=Lib.hid hh;have hid2:=fun W=>fv2 y x W;unfold It.val at hid2;generalize y.hides x=q at *;have HD:=Lib.hid hid2;have hby:=az hbz hbo;clear hh hid2
 cases b with
 |false=>
  have HR:=Lib.hid (show r=false from HH.out.trans (Bool.false_and _));clear HH;go_wp2;go_ret;exact⟨iq HR.out.symm,hby⟩
 |true=>
  have HR:=Lib.hid (show r=q from HH.out.trans (Bool.true_and _));clear HH;go_wp2_with fail;refine(HD.out _).mono ?_;rintro e W2 ⟨rfl,hb2⟩;have hbx:=az hby hb2;go_wp2;go_ret;exact⟨iq HR.out.symm,hbx⟩
end
section
open Go Go.RowKit
theorem lk4 (K:Nat) (hF:∀args w,(callFunc K args).run Tryz.prog w=.ok (.enter K args) w) (p:Addr) (P:Int×Int→Bool) (A:Option Addr) (n c:Nat) (fs:List (Int×Int)) (w:World) (hn:n≤1000000) (hr:Row w.heap.size w A n 2 (dw fs))
  (hK:∀f w1,Below w.heap.size w w1→Calls Tryz.prog K #[.agg #[.int .i64 f.1,.int .i64 f.2],.pointer (some p)] w1 fun e w'=>e=.returned (.bool (P f))∧Below w1.heap.size w1 w'):
  Calls Tryz.prog 286 #[.slice A n c,.func (.func K) #[] #[.pointer (some p)]] w fun e w'=>e=.returned (.bool (fs.any P))∧Below w.heap.size w w':=by
 have hge:=rj1 P fs;have hq:=iw3 K hF p P A n c fs w hn hr hK;clear hK;generalize fidx P fs=i at *;have HGE:=Lib.hid hge;clear hge;go_enter Tryz.func286,Tryz.ntmps286;go_wp2_with fail;refine hq.mono ?_;rintro e w1 ⟨rfl,hb⟩;clear hq;go_wp2;go_ret;exact⟨iw1 HGE.out,hb⟩
theorem gz4 (A:Option Addr) (n c:Nat) (fs:List (Int×Int)) (w:World) (hn:n≤1000000) (hr:Row w.heap.size w A n 2 (dw fs)):
  Calls Tryz.prog 286 #[.slice A n c,.func (.func 334) #[] #[]] w fun e w'=>e=.returned (.bool (fs.any fun f=>!vz f))∧Below w.heap.size w w':=by
 have hidx:Calls Tryz.prog 292 #[.slice A n c,.func (.func 334) #[] #[]] w fun e w'=>e=.returned (.int .i64 (fidx (fun f=>!vz f) fs))∧Below w.heap.size w w':=by
  obtain⟨P,hP⟩:∃P:Int×Int→Bool,P=fun f=>!vz f:=⟨_,rfl⟩;have hK:∀f w1,Calls Tryz.prog 334 #[.agg #[.int .i64 f.1,.int .i64 f.2]] w1 fun e w'=>e=.returned (.bool (P f))∧Below w1.heap.size w1 w':=fun f w1=>by rw[hP];exact ov4 f w1
  rw[←hP];have hnn:=hr.flen;have HK:=Lib.hid hK;clear hK hP;go_enter Tryz.func292,Tryz.ntmps292;go_wp2
  go_loopw [8] (fun i wr=>∃k:Nat,k≤n∧i=.int .i64 (k:Int)∧Hid ((fs.take k).any P=false)∧Below w.heap.size w wr) (fun i _=>n - (intOf i).toNat)
  case atStart=>exact⟨0,Nat.zero_le _,rfl,Lib.hid rfl,Below.refl _ _⟩
  case round=>
   obtain⟨k,hk,rfl,hb,hbl⟩:=hrel
   by_cases hlt:k < n
   ·obtain⟨a,hl,rfl,hbk,c0,c1⟩:=(hr.below hbl).file hlt
    have ht:=kw1 (P:=P) hl;have hs:=fun h1=>fy1 (P:=P) hl hb.out h1;generalize fs[k]=f at *;have HT:=Lib.hid ht;have HS:=Lib.hid hs;clear ht hs hl;have hc:=HK.out f wr
    cases hp:P f with
    |true=>
     rw[hp]at hc;have HP:=Lib.hid hp;clear hp;go_wp2_with fail;refine hc.mono ?_;rintro e w1 ⟨rfl,hb1⟩;go_wp2;go_ret;exact⟨tw1 (HS.out HP.out).symm,az hbl hb1⟩
    |false=>
     rw[hp]at hc;have HP:=Lib.hid hp;clear hp;go_wp2_with fail;refine hc.mono ?_;rintro e w1 ⟨rfl,hb1⟩;go_wp2;go_roundw
     case rel=>exact⟨k+1,by omega,by go_num,Lib.hid (by rw[HT.out,hb.out,HP.out];rfl),az hbl hb1⟩
     case measure=>simp[intOf];omega
   ·have hall:fidx P fs=-1:=cx1 (by
     have hb':=hb.out
     rwa [List.take_of_length_le (by omega)]at hb')
    have HA:=Lib.hid hall;clear hall;go_wp2;go_ret;exact⟨tw1 HA.out.symm,hbl⟩
 have hge:=rj1 (fun f=>!vz f) fs;generalize fidx (fun f=>!vz f) fs=i at *;have HGE:=Lib.hid hge;clear hge;go_enter Tryz.func286,Tryz.ntmps286;go_wp2_with fail;refine hidx.mono ?_;rintro e w1 ⟨rfl,hb⟩;clear hidx;go_wp2;go_ret;exact⟨iw1 HGE.out,hb⟩
theorem ej4 (A:Option Addr) (n c:Nat) (ns:List Int) (w:World) (hn:n≤1000000) (hr:Row w.heap.size w A n 1 (uz ns)):
  Calls Tryz.prog 332 #[.slice A n c,.func (.func 333) #[] #[]] w fun e w'=>e=.returned (.bool (ns.any fun f=>!isNum f))∧w=w':=by
 have hidx:Calls Tryz.prog 357 #[.slice A n c,.func (.func 333) #[] #[]] w fun e w'=>e=.returned (.int .i64 (fidx (fun f=>!isNum f) ns))∧w=w':=by
  obtain⟨P,hP⟩:∃P:Int→Bool,P=fun f=>!isNum f:=⟨_,rfl⟩;have hK:∀f w1,Calls Tryz.prog 333 #[.int .i64 f] w1 fun e w'=>e=.returned (.bool (P f))∧w1=w':=fun f w1=>by rw[hP];exact kz4 f w1
  rw[←hP];have hnn:=hr.ilen;have HK:=Lib.hid hK;clear hK hP;go_enter Tryz.func357,Tryz.ntmps357;go_wp2
  go_loop [8] (fun i=>∃k:Nat,k≤n∧i=.int .i64 (k:Int)∧Hid ((ns.take k).any P=false)) (fun i=>n - (intOf i).toNat)
  case atStart=>exact⟨0,Nat.zero_le _,rfl,Lib.hid rfl⟩
  case round=>
   obtain⟨k,hk,rfl,hb⟩:=hrel
   by_cases hlt:k < n
   ·obtain⟨a,hl,rfl,hbk,c0⟩:=hr.int_ hlt
    have ht:=kw1 (P:=P) hl;have hs:=fun h1=>fy1 (P:=P) hl hb.out h1;generalize ns[k]=f at *;have HT:=Lib.hid ht;have HS:=Lib.hid hs;clear ht hs hl;have hc:=HK.out f w
    cases hp:P f with
    |true=>
     rw[hp]at hc;have HP:=Lib.hid hp;clear hp;go_wp2_with fail;refine hc.mono ?_;rintro e w1 ⟨rfl,rfl⟩;go_wp2;go_ret;exact⟨tw1 (HS.out HP.out).symm,rfl⟩
    |false=>
     rw[hp]at hc;have HP:=Lib.hid hp;clear hp;go_wp2_with fail;refine hc.mono ?_;rintro e w1 ⟨rfl,rfl⟩;go_wp2
     go_round
     case rel=>exact⟨k+1,by omega,by go_num,Lib.hid (by rw[HT.out,hb.out,HP.out];rfl)⟩
     case measure=>simp[intOf];omega
   ·have hall:fidx P ns=-1:=cx1 (by
     have hb':=hb.out
     rwa [List.take_of_length_le (by omega)]at hb')
    have HA:=Lib.hid hall;clear hall;go_wp2;go_ret;exact⟨tw1 HA.out.symm,rfl⟩
 have hge:=rj1 (fun f=>!isNum f) ns;generalize fidx (fun f=>!isNum f) ns=i at *;have HGE:=Lib.hid hge;clear hge;go_enter Tryz.func332,Tryz.ntmps332;go_wp2_with fail;refine hidx.mono ?_;rintro e w1 ⟨rfl,rfl⟩;clear hidx;go_wp2;go_ret;exact⟨iw1 HGE.out,rfl⟩
theorem tw2 (a b c d:Nat):ty1 a b c d= !bigs [a,b,c,d]:=by
 rw[Bool.eq_iff_iff];simp[ty1,bigs];omega
theorem vz1:∀fs:List (Int×Int),apart fs=true↔fs.Pairwise fun f g=>g.2≠f.2
 |[]=>by simp[apart]
 |f::r=>by
  rw[apart,List.pairwise_cons,Bool.and_eq_true,vz1 r];simp
theorem pk3 (fs:List (Int×Int)):(fs.all vz&&apart fs)=true↔∀k (h:k < fs.length),vz fs[k]=true∧(fs.take k).any (fun g=>g.2==(fs[k]).2)=false:=by
 rw[Bool.and_eq_true,vz1,List.all_eq_true,List.pairwise_iff_getElem];constructor
 ·rintro⟨h1,h2⟩ k hk
  refine⟨h1 _ (List.getElem_mem hk),?_⟩;rw[List.any_eq_false];intro g hg;obtain⟨i,hi,rfl⟩:=List.mem_take_iff_getElem.1 hg;have:=h2 i k (by omega) hk (by omega);simp only[beq_iff_eq];exact fun e=>this e.symm
 ·intro h
  refine⟨fun f hf=>?_,fun i j hi hj hij=>?_⟩
  ·obtain⟨k,hk,rfl⟩:=List.getElem_of_mem hf
   exact(h k hk).1
  ·have:=List.any_eq_false.1 (h j hj).2 fs[i] (List.mem_take_iff_getElem.2 ⟨i,by omega,rfl⟩)
   simp only[beq_iff_eq]at this;exact fun e=>this e.symm
def Vw.val (v:Vw) (A:Option Addr) (n c:Nat):Value:=.agg #[.int .i64 v.log,.slice A n c,.int .u64 (v.floor:Int),.int .u64 (v.cert:Int),.int .u64 (v.at_:Int),.int .u64 (v.lease:Int)]
def Vw.cells (v:Vw) (A:Option Addr) (n c:Nat):List Value:=[.int .i64 v.log,.slice A n c,.int .u64 (v.floor:Int),.int .u64 (v.cert:Int),.int .u64 (v.at_:Int),.int .u64 (v.lease:Int)]
def Ed.val (e:Ed) (D:Option Addr) (m d:Nat) (A:Option Addr) (n c:Nat):Value:=.agg #[.slice D m d,.slice A n c,.int .i64 e.log,.int .u64 (e.floor:Int),.int .u64 (e.cert:Int),.int .u64 (e.at_:Int),.int .u64 (e.lease:Int)]
theorem py4 (v:Vw) (A:Option Addr) (n c:Nat) (w:World) (hn:n≤1000000) (hnc:n≤c) (_hcm:c≤maxLen) (hr:Row w.heap.size w A n 2 (dw v.files)):
  Calls Tryz.prog 227 #[v.val A n c] w fun e w'=>e=.returned (.bool v.ok)∧Below w.heap.size w w':=by
 obtain⟨g,fs,f,ce,a,l⟩:=v;obtain⟨b,hb⟩:∃b,b=Vw.ok ⟨g,fs,f,ce,a,l⟩:=⟨_,rfl⟩;have hfl:=hr.flen;rw[←hb];unfold Vw.ok at hb;simp only at hb hr hfl;rw[tw2,hfl,Bool.and_assoc _ _ (apart fs)]at hb;unfold Vw.val;simp only;have hisn:=ox1 g
 cases h1:isNum g with
 |false=>
  rw[h1]at hb hisn;have HB:=Lib.hid hb;clear hb h1;go_enter Tryz.func227,Tryz.ntmps227;go_wp2_with fail;refine(hisn _).mono ?_;rintro e w1 ⟨rfl,rfl⟩;go_wp2;go_ret;exact⟨iw1 HB.out.symm,(Below.refl _ _).alloc (Nat.le_refl _) _⟩
 |true=>
  rw[h1]at hb hisn
  by_cases h2:n≤40
  ·cases h3:bigs [f,ce,a,l] with
   |true=>
    rw[h3]at hb;have HB:=Lib.hid hb;clear hb h1;have HX:=Lib.hid h3;clear h3;go_enter Tryz.func227,Tryz.ntmps227;go_wp2_with fail;refine(hisn _).mono ?_;rintro e w1 ⟨rfl,rfl⟩;clear hisn;have hrow:=jq2 (w.alloc (.cells #[.int .i64 g,.slice A n c,.int .u64 (f:Int),.int .u64 (ce:Int),.int .u64 (a:Int),.int .u64 (l:Int)] 86)) 22 #[.int .u64 (f:Int),.int .u64 (ce:Int),.int .u64 (a:Int),.int .u64 (l:Int)] [f,ce,a,l] 4 rfl rfl;have hmeta:=lx2 _ 4 4 [f,ce,a,l] _ (by omega) hrow;rw[HX.out]at hmeta;simp only[World.size_alloc,Bool.not_true]at hmeta;clear hrow;go_wp2_with fail;refine hmeta.mono ?_;rintro e w1 ⟨rfl,rfl⟩;clear hmeta;go_wp2;go_ret;exact⟨iw1 (HB.out.trans (by simp)).symm,((Below.refl _ _).alloc (Nat.le_refl _) _).alloc (by simp) _⟩
   |false=>
    rw[h3]at hb;have hgd:=pk3 fs;have hbb:b=(fs.all vz&&apart fs):=by rw[hb];simp[h2]
    rw[←hbb]at hgd;have HG:=Lib.hid hgd;clear hb h1 hgd hbb;have HX:=Lib.hid h3;clear h3;go_enter Tryz.func227,Tryz.ntmps227;go_wp2_with fail;refine(hisn _).mono ?_;rintro e w1 ⟨rfl,rfl⟩;clear hisn;have hrow:=jq2 (w.alloc (.cells #[.int .i64 g,.slice A n c,.int .u64 (f:Int),.int .u64 (ce:Int),.int .u64 (a:Int),.int .u64 (l:Int)] 86)) 22 #[.int .u64 (f:Int),.int .u64 (ce:Int),.int .u64 (a:Int),.int .u64 (l:Int)] [f,ce,a,l] 4 rfl rfl;have hmeta:=lx2 _ 4 4 [f,ce,a,l] _ (by omega) hrow;rw[HX.out]at hmeta;simp only[World.size_alloc,Bool.not_false]at hmeta;clear hrow;go_wp2_with fail;refine hmeta.mono ?_;rintro e w1 ⟨rfl,rfl⟩;clear hmeta;have hbx0:=(BoxO.new w #[.int .i64 g,.slice A n c,.int .u64 (f:Int),.int .u64 (ce:Int),.int .u64 (a:Int),.int .u64 (l:Int)] 86).alloc (.cells #[.int .u64 (f:Int),.int .u64 (ce:Int),.int .u64 (a:Int),.int .u64 (l:Int)] 22);have hbl0:=((Below.refl w.heap.size w).alloc (Nat.le_refl _) (.cells #[.int .i64 g,.slice A n c,.int .u64 (f:Int),.int .u64 (ce:Int),.int .u64 (a:Int),.int .u64 (l:Int)] 86)).alloc (by simp) (.cells #[.int .u64 (f:Int),.int .u64 (ce:Int),.int .u64 (a:Int),.int .u64 (l:Int)] 22);go_wp2
    go_loopw [31] (fun i wr=>∃k:Nat,k≤n∧i=.int .i64 (k:Int)∧Hid (∀j (h:j < fs.length),j < k→vz fs[j]=true∧(fs.take j).any (fun g=>g.2==(fs[j]).2)=false)∧
     BoxO wr 86 w.heap.size [.int .i64 g,.slice A n c,.int .u64 (f:Int),.int .u64 (ce:Int),.int .u64 (a:Int),.int .u64 (l:Int)]∧Below w.heap.size w wr) (fun i _=>n - (intOf i).toNat)
    case atStart=>exact⟨0,Nat.zero_le _,rfl,Lib.hid (fun j h hj=>by omega),hbx0,hbl0⟩
    case round=>
     obtain⟨k,hk,rfl,hgd,hBx,hbl⟩:=hrel;clear hbx0 hbl0
     by_cases hlt:k < n
     ·have hrk:=(hr.pre (m:=k) hk).below hbl
      rw[←gy1]at hrk;obtain⟨ad,hl,rfl,hbk,c0,c1⟩:=(hr.below hbl).file hlt;have hbad1:vz fs[k]=false→b=false:=fun h=>by
       cases b with
       |false=>rfl
       |true=>have:=(HG.out.1 rfl k hl).1;rw[h]at this;cases this
      have hbad2:(fs.take k).any (fun g=>g.2==(fs[k]).2)=true→b=false:=fun h=>by
       cases b with
       |false=>rfl
       |true=>have:=(HG.out.1 rfl k hl).2;rw[h]at this;cases this
      have hnext:vz fs[k]=true→(fs.take k).any (fun g=>g.2==(fs[k]).2)=false→∀j (h:j < fs.length),j < k+1→vz fs[j]=true∧(fs.take j).any (fun g=>g.2==(fs[j]).2)=false:=fun e1 e2 j hj hjk=>by
       rcases Nat.lt_or_ge j k with h|h
       ·exact hgd.out j hj h
       ·obtain rfl:j=k:=by omega
        exact⟨e1,e2⟩
      generalize fs[k]=x at *;obtain⟨ps,hps⟩:∃ps,ps=fs.take k:=⟨_,rfl⟩;rw[←hps]at hbad2 hnext hrk;have H1:=Lib.hid hbad1;have H2:=Lib.hid hbad2;have H3:=Lib.hid hnext;clear hbad1 hbad2 hnext hgd hps HG HX hl;have q1:=hBx.cell 1;simp only[gE0,gE1]at q1;have hisf:=iq2 x
      cases hx:vz x with
      |false=>
       rw[hx]at hisf;have HF:=Lib.hid hx;clear hx;go_wp2_with fail;refine(hisf _).mono ?_;rintro e w1 ⟨rfl,hb1⟩;have hbw:=az (hbl.alloc hbl.size (.cells #[.int .i64 x.1,.int .i64 x.2] 170)) hb1;clear hisf;go_wp2;go_ret;exact⟨iw1 (H1.out HF.out).symm,hbw⟩
      |true=>
       rw[hx]at hisf;have HF:=Lib.hid hx;clear hx;go_wp2_with fail;refine(hisf _).mono ?_;rintro e w1 ⟨rfl,hb1⟩;have hbA:=Below.alloc (Below.refl wr.heap.size wr) (Nat.le_refl _) (.cells #[.int .i64 x.1,.int .i64 x.2] 170);have hbw:=az hbA hb1;have hB1:=hBx.below hbw;have hXc:w1.cell? ⟨wr.heap.size,1,none⟩=some (.int .i64 x.2):=by
        rw[hb1.cell (p:=⟨wr.heap.size,1,none⟩) (by simp)];exact(BoxO.new wr #[.int .i64 x.1,.int .i64 x.2] 170).cell 1
       have hbz:=az hbl hbw;have hrk1:=(hrk.below (hbw.mono hbl.size)).up hbz.size;have hXlt:=World.block_lt_of_cell? w1 _ hXc;clear hisf hb1 hbA hbw hBx q1 c0 c1;have q1:=hB1.cell 1;simp only[gE0,gE1]at q1;have hfh:=lk4 287 (fun _ _=>rfl) ⟨wr.heap.size,0,none⟩ (fun f=>f.2==x.2) (some ad) k c ps w1 (by omega) hrk1 (fun f w2 hb2=>uy4 f wr.heap.size x.2 w2 ((hb2.cell (p:=⟨wr.heap.size,1,none⟩) hXlt).trans hXc))
       cases hany:ps.any (fun f=>f.2==x.2) with
       |true=>
        rw[hany]at hfh;have HY:=Lib.hid hany;clear hany;go_wp2_with fail;refine hfh.mono ?_;rintro e w2 ⟨rfl,hb2⟩;have hbq:=az hbz hb2;clear hfh;go_wp2;go_ret;exact⟨iw1 (H2.out HY.out).symm,hbq⟩
       |false=>
        rw[hany]at hfh;have HY:=Lib.hid hany;clear hany;go_wp2_with fail;refine hfh.mono ?_;rintro e w2 ⟨rfl,hb2⟩;have hbq:=az hbz hb2;have hB2:=hB1.below hb2;clear hfh;go_wp2;go_roundw
        case rel=>exact⟨k+1,by omega,by go_num,Lib.hid (H3.out HF.out HY.out),hB2,hbq⟩
        case measure=>simp[intOf];omega
     ·have hfin:b=true:=HG.out.2 (fun j hj=>hgd.out j hj (by omega))
      have HF:=Lib.hid hfin;clear hfin hgd HG HX;go_wp2;go_ret;exact⟨iw1 HF.out.symm,hbl⟩
  ·have hbf:b=false:=by rw[hb];simp[h2]
   have HB:=Lib.hid hbf;clear hb h1 hbf;go_enter Tryz.func227,Tryz.ntmps227;go_wp2_with fail;refine(hisn _).mono ?_;rintro e w1 ⟨rfl,rfl⟩;go_wp2;go_ret;exact⟨iw1 HB.out.symm,(Below.refl _ _).alloc (Nat.le_refl _) _⟩
end
section
open Go Go.RowKit
theorem tq4 {α:Type} (P:α→Bool) (l:List α):l.any (fun f=>!P f)= !l.all P:=by
 induction l with
 |nil=>rfl
 |cons a r ih=>simp only[List.any_cons,List.all_cons,ih,Bool.not_and]
theorem zj2 (e:Ed) (D:Option Addr) (m d:Nat) (A:Option Addr) (n c:Nat) (w:World) (hm:m≤1000000) (hn:n≤1000000) (hrd:Row w.heap.size w D m 1 (uz e.drop)) (hr:Row w.heap.size w A n 2 (dw e.add)):
  Calls Tryz.prog 291 #[e.val D m d A n c] w fun x w'=>x=.returned (.bool e.may)∧Below w.heap.size w w':=by
 obtain⟨ds,fs,g,f,ce,a,l⟩:=e;obtain⟨b,hb⟩:∃b,b=Ed.may ⟨ds,fs,g,f,ce,a,l⟩:=⟨_,rfl⟩;have hfl:=hr.flen;have hdl:=hrd.ilen;rw[←hb];unfold Ed.may at hb;simp only at hb hr hfl hrd hdl;rw[tw2,hfl,hdl]at hb;unfold Ed.val;simp only
 by_cases h1:m≤40
 ·by_cases h2:n≤40
  ·by_cases h3:0≤g
   ·by_cases h4:g≤1073741824
    ·have hrow:=jq2 (w.alloc (.cells #[.slice D m d,.slice A n c,.int .i64 g,.int .u64 (f:Int),.int .u64 (ce:Int),.int .u64 (a:Int),.int .u64 (l:Int)] 194)) 22 #[.int .u64 (f:Int),.int .u64 (ce:Int),.int .u64 (a:Int),.int .u64 (l:Int)] [f,ce,a,l] 4 rfl rfl
     have hmeta:=lx2 _ 4 4 [f,ce,a,l] _ (by omega) hrow;have hbl:=((Below.refl w.heap.size w).alloc (Nat.le_refl _) (.cells #[.slice D m d,.slice A n c,.int .i64 g,.int .u64 (f:Int),.int .u64 (ce:Int),.int .u64 (a:Int),.int .u64 (l:Int)] 194)).alloc (by simp) (.cells #[.int .u64 (f:Int),.int .u64 (ce:Int),.int .u64 (a:Int),.int .u64 (l:Int)] 22);have hih:=ej4 D m d ds _ hm ((hrd.below hbl).up hbl.size);have hfh:=gz4 A n c fs _ hn ((hr.below hbl).up hbl.size);rw[tq4]at hih hfh;have hbb:b=(!bigs [f,ce,a,l] &&ds.all isNum&&fs.all vz):=by rw[hb];simp[h1,h2,h3,h4]
     clear hb hrow hrd hr;simp only[World.size_alloc]at hmeta
     cases h5:bigs [f,ce,a,l] with
     |true=>
      rw[h5]at hbb hmeta;have HB:=Lib.hid hbb;clear hbb h5 hih hfh;simp only[Bool.not_true]at hmeta;go_enter Tryz.func291,Tryz.ntmps291;go_wp2_with fail;refine hmeta.mono ?_;rintro e w1 ⟨rfl,rfl⟩;clear hmeta;go_wp2;go_ret;exact⟨iw1 (HB.out.trans rfl).symm,hbl⟩
     |false=>
      rw[h5]at hbb hmeta
      cases h6:ds.all isNum with
      |false=>
       rw[h6]at hbb hih;have HB:=Lib.hid hbb;clear hbb h5 h6 hfh;simp only[Bool.not_false]at hmeta hih;go_enter Tryz.func291,Tryz.ntmps291;go_wp2_with fail;refine hmeta.mono ?_;rintro e w1 ⟨rfl,rfl⟩;clear hmeta;go_wp2_with fail;refine hih.mono ?_;rintro e w1 ⟨rfl,rfl⟩;clear hih;go_wp2;go_ret;exact⟨iw1 (HB.out.trans rfl).symm,hbl⟩
      |true=>
       rw[h6]at hbb hih;generalize fs.all vz=y at *;have HB:=Lib.hid hbb;clear hbb h5 h6;simp only[Bool.not_true]at hih;simp only[Bool.not_false]at hmeta;go_enter Tryz.func291,Tryz.ntmps291;go_wp2_with fail;refine hmeta.mono ?_;rintro e w1 ⟨rfl,rfl⟩;clear hmeta;go_wp2_with fail;refine hih.mono ?_;rintro e w1 ⟨rfl,rfl⟩;clear hih;go_wp2_with fail;refine hfh.mono ?_;rintro e w1 ⟨rfl,hb1⟩;have hbz:=az hbl hb1;clear hfh
       cases y
       all_goals
        go_wp2;go_ret;exact⟨iw1 (HB.out.trans rfl).symm,hbz⟩
    ·have HB:=Lib.hid (hb.trans (show _=false by simp[h4]))
     clear hb;go_enter Tryz.func291,Tryz.ntmps291;go_wp2;go_ret;exact⟨iw1 HB.out.symm,(Below.refl _ _).alloc (Nat.le_refl _) _⟩
   ·have HB:=Lib.hid (hb.trans (show _=false by simp[h3]))
    clear hb;go_enter Tryz.func291,Tryz.ntmps291;go_wp2;go_ret;exact⟨iw1 HB.out.symm,(Below.refl _ _).alloc (Nat.le_refl _) _⟩
  ·have HB:=Lib.hid (hb.trans (show _=false by simp[h2]))
   clear hb;go_enter Tryz.func291,Tryz.ntmps291;go_wp2;go_ret;exact⟨iw1 HB.out.symm,(Below.refl _ _).alloc (Nat.le_refl _) _⟩
 ·have HB:=Lib.hid (hb.trans (show _=false by simp[h1]))
  clear hb;go_enter Tryz.func291,Tryz.ntmps291;go_wp2;go_ret;exact⟨iw1 HB.out.symm,(Below.refl _ _).alloc (Nat.le_refl _) _⟩
end
section
open Go Go.RowKit
theorem BoxO.stores {e:TypeId} {g:Nat}:∀(vs:List Value) (o:Nat) (w:World) (xs:List Value),BoxO w e g xs→o+vs.length≤xs.length→BoxO (w.setCells g o vs) e g (xs.take o++(vs++xs.drop (o+vs.length)))
 |[],o,w,xs,h,_=>by simpa [World.setCells] using h
 |v::r,o,w,xs,h,ho=>by
  simp only[List.length_cons]at ho;have h1:=BoxO.stores r (o+1) (w.setCell ⟨g,o,none⟩ v) (xs.set o v) (h.store o v) (by simp;omega);have e1:(xs.set o v).take (o+1)=xs.take o++[v]:=by
   rw[List.take_succ_eq_append_getElem (by simp;omega),List.take_set_of_le (Nat.le_refl _)];simp
  have e2:(xs.set o v).drop (o+1+r.length)=xs.drop (o+(r.length+1)):=by
   rw[List.drop_set,if_pos (by omega),show o+1+r.length=o+(r.length+1) by omega]
  rw[e1,e2,List.append_assoc]at h1;simpa [World.setCells] using h1
theorem cq1 (g:Nat):∀(vs:List Value) (o:Nat) (w w':World),Chg [g] w w'→Chg [g] w (w'.setCells g o vs)
 |[],_,_,_,h=>h
 |v::r,o,w,w',h=>cq1 g r (o+1) w _ (h.setCell v (.inl (by simp)))
theorem bv2 (w:World) (ty:TypeId) (g o c:Nat) (hc:∀j,j < 2→(w.cell? ⟨g,o+j,none⟩).isSome=true) (hf:∀j,j < 2→w.frozen? ⟨g,o+j,none⟩=false):
  (Builtin.clear_ #[84] ty #[.slice (some ⟨g,o,none⟩) 1 c]).run Tryz.prog w=.ok (.tuple #[]) (w.setCells g o [.int .i64 0,.int .i64 0]):=by
 have hst:=run_storeCells_cells (P:=Tryz.prog) g o [.int .i64 0,.int .i64 0] 0 w (by simpa using hc) (by simpa using hf) (by intro v hv;simp at hv;subst hv;rfl);simp only[Nat.add_zero]at hst;have hz:(zeroValue 170).run Tryz.prog w=.ok (.agg #[.int .i64 0,.int .i64 0]) w:=by kernel_rfl
 have hzc:(Builtin.zeroCells (Value.agg #[.int .i64 0,.int .i64 0]).cells 1).toList=[.int .i64 0,.int .i64 0]:=by kernel_rfl
 simp[Builtin.clear_,run_underlying Tryz.underlying84,hz,hzc,hst]
theorem kx1:(Tryz.prog.info? 170).map (fun i=>(i.zero,i.size,i.bytes))=some (some (.agg #[.int .i64 0,.int .i64 0]),2,16):=by kernel_rfl
theorem gv4 (base g n cap i:Nat) (fs:List (Int×Int)) (w:World) (ho:w.ownsRow base 170 2 (.slice (some ⟨g,0,none⟩) n cap) n (dw fs)) (hi:i < n):
  Calls Tryz.prog 294 #[.slice (some ⟨g,0,none⟩) n cap,.int .i64 (i:Int),.int .i64 ((i:Int)+1)] w fun e w'=>e=.returned (.slice (some ⟨g,0,none⟩) (n - 1) cap)∧
   w'.ownsRow base 170 2 (.slice (some ⟨g,0,none⟩) (n - 1) cap) (n - 1) (dw (fs.eraseIdx i))∧Chg [g] w w':=by
 obtain⟨i0,hi0,hz0,hz1,hz2⟩:=info_parts kx1;have hxl:=ho.1;rw[fw1]at hxl
 rcases ho.2 with ⟨_,h0⟩|⟨g',cap',cur,hv,hbg,hheap,hn,hcm,hcs,htk⟩
 ·omega
 injection hv with hv1 hv2 hv3;injection hv1 with hv1;injection hv1 with hv1;subst hv1 hv3;clear hv2;have hB:BoxO w 170 g cur.toList:=by unfold BoxO;simpa using hheap
 have hcl:cur.toList.length=cap *2:=by simpa using hcs
 obtain⟨k,hk⟩:∃k,n - (i+1)=k:=⟨_,rfl⟩;have hgetc:∀j,j < n *2→w.cell? ⟨g,j,none⟩=(dw fs)[j]?:=fun j hj=>by
  rw[hB.cell,←htk,List.getElem?_take,if_pos hj]
 obtain⟨news,hnews⟩:∃news,news=dw (fs.drop (i+1)):=⟨_,rfl⟩;have hnl:news.length=k *2:=by rw[hnews,fw1,List.length_drop];omega
 have hnd:news=(dw fs).drop ((i+1)*2):=by rw[hnews,by3]
 obtain⟨A,hA,hsrc⟩:∃A:Addr,(if cap=i+1 then some (⟨g,0,none⟩:Addr) else some ⟨g,(i+1)*2,none⟩)=some A∧Hid (∀j u,news[j]?=some u→w.drew.cell? (A.add j)=some u):=by
  by_cases h:cap=i+1
  ·refine⟨⟨g,0,none⟩,by simp[h],fun j u hu=>?_⟩
   have h0:news.length=0:=by rw[hnl];omega
   rw[List.length_eq_zero_iff.1 h0]at hu;simp at hu
  ·refine⟨⟨g,(i+1)*2,none⟩,by simp[h],fun j u hu=>?_⟩
   have hj:j < k *2:=by have:=(List.getElem?_eq_some_iff.1 hu).1;omega
   rw[Addr.add_lit,show w.drew.cell? ⟨g,(i+1)*2+j,none⟩=w.cell? ⟨g,(i+1)*2+j,none⟩ from rfl,hgetc _ (by omega),←hu,hnd,List.getElem?_drop]
 have s1:Hid (news.length=k *2):=hnl;have s2:Hid (∀u∈news,u.oneCell'=true):=by rw[hnews];exact fj1 _
 have s3:Hid (∀j,j < news.length→(w.drew.cell? ⟨g,0+i *2+j,none⟩).isSome=true∧w.drew.frozen? ⟨g,0+i *2+j,none⟩=false):=by
  intro j hj;rw[hnl]at hj;refine⟨?_,hB.free _⟩;rw[show w.drew.cell? ⟨g,0+i *2+j,none⟩=w.cell? ⟨g,0+i *2+j,none⟩ from rfl,hB.cell,List.getElem?_eq_getElem (by omega)];rfl
 obtain⟨W1,hW1⟩:∃W1,W1=w.drew.setCells g (0+i *2) news:=⟨_,rfl⟩;have hB1:BoxO W1 170 g (cur.toList.take (i *2)++(news++cur.toList.drop (i *2+news.length))):=by
  rw[hW1,Nat.zero_add];exact BoxO.stores news (i *2) w.drew _ hB.drew (by omega)
 have hC1:Chg [g] w W1:=by
  rw[hW1];exact cq1 g news _ w _ (Chg.refl _ _).drew
 have hcell:∀j,j < 2→(W1.cell? ⟨g,(i+k)*2+j,none⟩).isSome=true:=fun j hj=>by
  rw[hB1.cell,List.getElem?_eq_getElem (by simp only[List.length_append,List.length_take,List.length_drop];omega)];rfl
 have hclr:=fun ty c=>bv2 W1 ty g ((i+k)*2) c hcell (fun j hj=>hB1.free _);have hB2:=BoxO.stores [.int .i64 0,.int .i64 0] ((i+k)*2) W1 _ hB1 (by simp only[List.length_append,List.length_take,List.length_drop,List.length_cons,List.length_nil];omega);have hC2:=cq1 g [.int .i64 0,.int .i64 0] ((i+k)*2) w _ hC1;obtain⟨W2,hW2⟩:∃W2,W2=W1.setCells g ((i+k)*2) [.int .i64 0,.int .i64 0]:=⟨_,rfl⟩;rw[←hW2]at hB2 hC2;simp only[←hW2]at hclr;have hfin:W2.ownsRow base 170 2 (.slice (some ⟨g,0,none⟩) (i+k) cap) (i+k) (dw (fs.eraseIdx i)):=by
  refine⟨by rw[fw1,List.length_eraseIdx_of_lt (by omega)];omega,.inr ⟨g,cap,_,rfl,hbg,hB2,by omega,hcm,?_,?_⟩⟩
  ·simp only[List.size_toArray,List.length_append,List.length_take,List.length_drop,List.length_cons,List.length_nil]
   omega
  ·have e1:dw (fs.eraseIdx i)=(dw fs).take (i *2)++news:=by
    rw[List.eraseIdx_eq_take_drop_succ,sj1,gy1,hnews]
   have e2:(dw fs).take (i *2)=cur.toList.take (i *2):=by
    rw[←htk,List.take_take,Nat.min_eq_left (by omega)]
   rw[e1,e2,List.take_append_of_le_length (by simp only[List.length_append,List.length_take,List.length_drop];omega),List.take_take,Nat.min_eq_left (by omega),←List.append_assoc,
    List.take_append_of_le_length (by simp only[List.length_append,List.length_take];omega),List.take_of_length_le (by simp only[List.length_append,List.length_take];omega)]
 have hik:i+k=n - 1:=by omega
 have HF:Hid (W2.ownsRow base 170 2 (.slice (some ⟨g,0,none⟩) (n - 1) cap) (n - 1) (dw (fs.eraseIdx i))):=by rw[←hik];exact hfin
 have HIK:=Lib.hid hik;have HW:=Lib.hid hW1;have e1:((i:Int)==(i:Int)+1)=false:=by simp;omega
 have hic:i≤cap:=by omega
 have hic1:i+1≤cap:=by omega
 have hji:0≤(i:Int)+1∧(i:Int)+1≤(n:Int):=by omega
 have hroom:i+k≤cap:=by omega
 have hkn:i+k≤n:=by omega
 have hn1:n - (i+k)=1:=by omega
 have hnc:(n:Int)≤(cap:Int):=by omega
 unfold maxLen at hcm;clear ho hheap hB hcl hgetc hnews hnl hnd hB1 hC1 hcell hB2 hW2 hfin hik hW1 htk hcs hxl;go_enter Tryz.func294,Tryz.ntmps294;go_wp2_with fail
 go_region_law (refine step_append_room rfl (.tmp 22) (.tmp 25) 84 rfl 170 i0 2 Tryz.underlying84 hi0 hz1 g 0 i cap (by simp[Act.eval,Act.put]) A k (cap - (i+1)) news (by simp[Act.eval,Act.put]) s1.out hsrc.out s2.out hroom s3.out ?_;rw[←HW.out])
 go_wp2_with fail;go_ret;exact⟨congrArg (fun x=>Ending.returned (Value.slice (some ⟨g,0,none⟩) x cap)) HIK.out,HF.out,hC2⟩
end
end Go.Proofs.YthjdpplgfdihoaaGreatDoor
