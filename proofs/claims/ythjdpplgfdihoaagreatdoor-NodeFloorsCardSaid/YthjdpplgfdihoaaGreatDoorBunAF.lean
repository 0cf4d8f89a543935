/- Texts SkipC, SkipE, PlainView, EditG, ItemB, ItemC in one. No conditions. -/
import Derived.Test.YthjdpplgfdihoaaGreatDoorBunAA
import Derived.Test.YthjdpplgfdihoaaGreatDoorBunAE
import Derived.Deep.RegionHeld3
import Derived.Test.YthjdpplgfdihoaaGreatDoorBunAD
import Derived.IntWalk

set_option linter.unusedSimpArgs false
set_option linter.unusedVariables false
set_option maxRecDepth 100000
set_option maxHeartbeats 16000000
namespace Go.Proofs.YthjdpplgfdihoaaGreatDoor
section
open Go Go.RowKit Go.Lib
theorem SkAt.lt {w:World} {L:Nat} {ns:List Nd} (h:SkAt w L ns):∀g∈skF L ns,g < w.heap.size:=by
 intro g hg
 rcases List.mem_cons.1 hg with rfl|hg
 ·obtain⟨_,_,_,_,hL⟩:=h.head
  exact hL.lt
 ·obtain⟨n,hn,hg⟩:=List.mem_flatMap.1 hg
  simp only[List.mem_cons,List.not_mem_nil,or_false]at hg
  rcases hg with rfl|rfl
  ·exact(h.core.node n hn).lt
  ·obtain⟨i,hi⟩:=List.mem_iff_getElem?.1 hn
   obtain⟨cs,h1,_⟩:=h.core.tower i n hi;exact h1.lt
def oc (ns:List Nd) (J:Nat→Nat) (k:Nat):List Value:=(List.range 6).map fun l=>if k≤l then pv ns (J l) else .pointer none
theorem rw4 (ns:List Nd) (J:Nat→Nat) (k i:Nat) (hk:k < 6):(oc ns J (k+1)).set k (pv ns i)=oc ns (fun l=>if l=k then i else J l) k:=by
 have e:k=0∨k=1∨k=2∨k=3∨k=4∨k=5:=by omega
 rcases e with rfl|rfl|rfl|rfl|rfl|rfl<;>simp[oc,List.range,List.range.loop]
theorem bv5 {w:World} {g j k:Nat} {ns:List Nd} {J:Nat→Nat} (h:BoxO w 292 g (oc ns J k)) (hj:j < 6):∃u,w.cell? ⟨g,j,none⟩=some u:=by
 rw[h.cell];exact⟨_,List.getElem?_eq_getElem (by simpa [oc] using hj)⟩
theorem qz3 (L q:Nat) (ns:List Nd) (x:It) (w:World) (h:SkAt w L ns) (hq:q=pos (its ns) x+1):
  Calls Tryz.prog 238 #[.pointer (some ⟨L,0,none⟩),x.val] w fun e w'=>∃J:Nat→Nat,(∀l,l < 6→Pred ns l q (J l))∧e=.returned (.agg #[pv ns (J 0),pv ns (J 1),pv ns (J 2),pv ns (J 3),pv ns (J 4),pv ns (J 5)])∧Below w.heap.size w w':=by
 have hlt:=h.lt;have hW:=(((Below.refl w.heap.size w).alloc (Nat.le_refl _) (.cells #[.int .i64 x.s,.int .i64 x.k,.int .u64 (x.t:Int),.int .u64 (x.v:Int),.int .i64 x.x] 36)).alloc (by simp) (.cells #[.pointer none,.pointer none,.pointer none,.pointer none,.pointer none,.pointer none] 292)).alloc (by simp;omega) (.cells #[.pointer none,.pointer none,.pointer none,.pointer none,.pointer none,.pointer none] 292);have hs3:=h.below hW;have hbx:BoxO (((w.alloc (.cells #[.int .i64 x.s,.int .i64 x.k,.int .u64 (x.t:Int),.int .u64 (x.v:Int),.int .i64 x.x] 36)).alloc (.cells #[.pointer none,.pointer none,.pointer none,.pointer none,.pointer none,.pointer none] 292)).alloc (.cells #[.pointer none,.pointer none,.pointer none,.pointer none,.pointer none,.pointer none] 292)) 36 w.heap.size x.cells:=((BoxO.new w #[.int .i64 x.s,.int .i64 x.k,.int .u64 (x.t:Int),.int .u64 (x.v:Int),.int .i64 x.x] 36).alloc _).alloc _;have hb4:BoxO (((w.alloc (.cells #[.int .i64 x.s,.int .i64 x.k,.int .u64 (x.t:Int),.int .u64 (x.v:Int),.int .i64 x.x] 36)).alloc (.cells #[.pointer none,.pointer none,.pointer none,.pointer none,.pointer none,.pointer none] 292)).alloc (.cells #[.pointer none,.pointer none,.pointer none,.pointer none,.pointer none,.pointer none] 292)) 292 (w.heap.size+1) (oc ns (fun _=>0) 6):=by
  have:=(BoxO.new (w.alloc (.cells #[.int .i64 x.s,.int .i64 x.k,.int .u64 (x.t:Int),.int .u64 (x.v:Int),.int .i64 x.x] 36)) #[.pointer none,.pointer none,.pointer none,.pointer none,.pointer none,.pointer none] 292).alloc (.cells #[.pointer none,.pointer none,.pointer none,.pointer none,.pointer none,.pointer none] 292);simpa [oc,List.range,List.range.loop] using this
 have hb5:BoxO (((w.alloc (.cells #[.int .i64 x.s,.int .i64 x.k,.int .u64 (x.t:Int),.int .u64 (x.v:Int),.int .i64 x.x] 36)).alloc (.cells #[.pointer none,.pointer none,.pointer none,.pointer none,.pointer none,.pointer none] 292)).alloc (.cells #[.pointer none,.pointer none,.pointer none,.pointer none,.pointer none,.pointer none] 292)) 292 (w.heap.size+2) (oc ns (fun _=>0) 6):=by
  have:=BoxO.new ((w.alloc (.cells #[.int .i64 x.s,.int .i64 x.k,.int .u64 (x.t:Int),.int .u64 (x.v:Int),.int .i64 x.x] 36)).alloc (.cells #[.pointer none,.pointer none,.pointer none,.pointer none,.pointer none,.pointer none] 292)) #[.pointer none,.pointer none,.pointer none,.pointer none,.pointer none,.pointer none] 292;simpa [oc,List.range,List.range.loop] using this
 obtain⟨hd,tl,hns,h6,hL⟩:=hs3.head;have l0:=hL.cell 0;simp only[gE0]at l0;have e0:Value.pointer (some ⟨hd.b,0,none⟩)=pv ns 0:=by unfold pv;rw[xq3 (ns:=ns) (j:=0) (n:=hd) (by rw[hns];rfl)]
 have hql:q≤ns.length:=by
  have h1:=qj2 (its ns) x;have h2:(its ns).length+1=ns.length:=by rw[hns];simp[its]
  omega
 have hless:=fun(k:Nat) (n:Nd) (hk:0 < k) (e:ns[k]?=some n)=>yz4 (x:=x) h.rises hk e;obtain⟨gs,hgs⟩:∃gs,gs=w.heap.size:=⟨_,rfl⟩;have hgl:∀g∈skF L ns,g∉[gs+2]:=fun g hg=>by have:=hlt g hg;simp;omega
 have HS3:=Lib.hid hs3;have HGL:=Lib.hid hgl;have HW:=Lib.hid hW;have HBX:=Lib.hid hbx;have HB5:=Lib.hid hb5;have HLS:=Lib.hid hless;have HE0:=Lib.hid e0;have HH6:=Lib.hid h6;have HNS:=Lib.hid hns;have HQ:=Lib.hid hq;have HGS:=Lib.hid hgs;have HB4:=Lib.hid hb4;clear hs3 hgl hW hbx hb4 hb5 hless e0 h6 hns hq hgs hlt h hL;unfold It.val;go_enter Tryz.func238,Tryz.ntmps238;go_wp2_with fail;generalize hV:(((w.alloc (.cells #[.int .i64 x.s,.int .i64 x.k,.int .u64 (x.t:Int),.int .u64 (x.v:Int),.int .i64 x.x] 36)).alloc (.cells #[.pointer none,.pointer none,.pointer none,.pointer none,.pointer none,.pointer none] 292)).alloc (.cells #[.pointer none,.pointer none,.pointer none,.pointer none,.pointer none,.pointer none] 292))=V at *;clear hV l0
 go_loopw [6,7] (fun at_ hI wr=>∃(k i:Nat) (n:Nd) (J:Nat→Nat),hI=.int .i64 ((k:Int) - 1)∧at_=.pointer (some ⟨n.b,0,none⟩)∧Hid (k≤6∧ns[i]?=some n∧k≤n.h∧i < q∧∀l,k≤l→l < 6→Pred ns l q (J l))∧Hid (BoxO wr 292 (w.heap.size+2) (oc ns J k))∧Chg [w.heap.size+2] V wr) (fun _ hI _=>(intOf hI+1).toNat)
 case atStart=>exact⟨6,0,hd,fun _=>0,rfl,rfl,Lib.hid ⟨Nat.le_refl _,by rw[HNS.out];rfl,by rw[HH6.out];exact Nat.le_refl _,by rw[HQ.out];omega,fun l h1 h2=>absurd h2 (by omega)⟩,HB5,Chg.refl _ _⟩
 case round=>
  obtain⟨k,i,n,J,rfl,rfl,HK,HB,hc⟩:=hrel
  cases k with
  |zero=>
   have hk0:((0:Int)≤((0:Nat):Int) - 1)=False:=eq_false (by omega);have g5:=HB.out;have g4:=HB4.out.chg hc (by simp);have o0:=g5.cell 0;have o1:=g5.cell 1;have o2:=g5.cell 2;have o3:=g5.cell 3;have o4:=g5.cell 4;have o5:=g5.cell 5;have r0:=g4.cell 0;have r1:=g4.cell 1;have r2:=g4.cell 2;have r3:=g4.cell 3;have r4:=g4.cell 4;have r5:=g4.cell 5;have f0:=g4.free 0;have f1:=g4.free 1;have f2:=g4.free 2;have f3:=g4.free 3;have f4:=g4.free 4;have f5:=g4.free 5;simp[oc,pv,List.range,List.range.loop]at o0 o1 o2 o3 o4 o5 r0 r1 r2 r3 r4 r5;have HC:=Lib.hid (show Chg [w.heap.size+1,w.heap.size+2] w wr from (Chg.of_below HW.out _).trans (hc.mono (G:=[w.heap.size+1,w.heap.size+2]) (fun g hg=>.inl (by rw[List.mem_singleton.1 hg];simp))) (fun g hg=>.inl hg));clear g4 g5 hc HB;go_wp2;refine bodyPost_ret (v:=.agg #[pv ns (J 0),pv ns (J 1),pv ns (J 2),pv ns (J 3),pv ns (J 4),pv ns (J 5)]) (by simp[results,go_sem,pv, *]) rfl ⟨J,fun l hl=>HK.out.2.2.2.2 l (Nat.zero_le _) hl,rfl,?_⟩;exact((((((HC.out.setCell _ (.inl (by simp))).setCell _ (.inl (by simp))).setCell _ (.inl (by simp))).setCell _ (.inl (by simp))).setCell _ (.inl (by simp))).setCell _ (.inl (by simp))).below (Nat.le_refl _) (fun g hg=>by simp at hg;omega)
  |succ j=>
   have hj0:(((j+1:Nat):Int) - 1)=(j:Int):=by omega
   rw[hj0];have hjp:(0:Int)≤(j:Int):=by omega
   have hwj:IntKind.i64.wrap (j:Int)=(j:Int):=IntWalk.i64_in _ (by have:=HK.out.1;omega);have hsr:=HS3.out.chg hc (fun g hg=>by have:=HGL.out g hg;rwa [HGS.out]at this);obtain⟨n5,⟨nl,nf⟩,nc,nc6⟩:=hsr.core.look (l:=j) HK.out.2.1 (by have:=HK.out.2.2.1;omega);have hjc:(j:Int) < (n.c:Int):=by omega
   have hld:=lj1 n.tb j _ wr nl (hsr.core.ptr j (i+1));have HLD:=Lib.hid hld;have HSR:=Lib.hid hsr;clear hld hsr nl nf;go_wp2_with fail;refine HLD.out.mono ?_;rintro e w1 ⟨rfl,rfl⟩;clear HLD;go_wp2_with fail;generalize hbe:nxb j (ns.drop (i+1))=be;have HBE:=Lib.hid hbe;clear hbe
   go_loopw [6,8] (fun at2 nx w2=>∃(i2:Nat) (n2:Nd) (b2:Option Nat),at2=.pointer (some ⟨n2.b,0,none⟩)∧nx=.pointer (b2.map fun b=>⟨b,0,none⟩)∧Hid (nxb j (ns.drop (i2+1))=b2∧ns[i2]?=some n2∧j < n2.h∧i2 < q)∧Hid (BoxO w2 292 (w.heap.size+2) (oc ns J (j+1)))∧Chg [w.heap.size+2] V w2) (fun at2 _ _=>rk ns at2)
   case atStart=>exact⟨i,n,be,rfl,rfl,Lib.hid ⟨HBE.out,HK.out.2.1,by have:=HK.out.2.2.1;omega,HK.out.2.2.2.1⟩,HB,hc⟩
   case round=>
    clear HB HSR hc HBE n5 hjc nc nc6;obtain⟨i2,n2,b2,rfl,rfl,HK2,HB,hc⟩:=hrel;have hsr:=HS3.out.chg hc (fun g hg=>by have:=HGL.out g hg;rwa [HGS.out]at this);have hbx:=HBX.out.chg hc (by simp)
    cases b2 with
    |none=>
     simp only[Option.map_none];go_wp2_with fail;refine wp_region_held_drew (S:=fun w'=>Below wr.heap.size wr w') rfl (ak (Below.refl _ _)) (fun hSw=>?_);refine wpT (i:=0) (v:=?vkn0) ?hkn0 hSw ?kkn0
     case hkn0=>(intro w hSw;skip;go_simp;try (with_reducible rfl))
     go_simp;refine wpT (i:=1) (v:=?vkn1) ?hkn1 hSw ?kkn1
     case hkn1=>(intro w hSw;skip;go_simp;try (with_reducible rfl))
     go_simp;refine wpT (i:=2) (v:=?vkn2) ?hkn2 hSw ?kkn2
     case hkn2=>(intro w hSw;skip;go_simp;try (with_reducible rfl))
     go_simp;refine wpT0 (i:=3) hSw ?_;go_simp;refine wpT0 (i:=4) hSw ?_;go_simp;refine wpT0 (i:=5) hSw ?_;go_simp;refine wpT0 (i:=6) hSw ?_;go_simp;refine wpT0 (i:=7) hSw ?_;go_simp;refine wpT0 (i:=8) hSw ?_;go_simp;refine wpT (i:=9) (v:=?vkn9) ?hkn9 hSw ?kkn9
     case hkn9=>(intro w hSw;skip;go_simp;try (with_reducible rfl))
     go_simp;refine wpAnyH_done (by kernel_rfl) ?_ _;have HP:=Lib.hid (show Pred ns j q i2 from ⟨HK2.out.2.2.2,⟨n2,HK2.out.2.1,HK2.out.2.2.1⟩,fun m n' h1 h2 h3=>iw4 (nz4 HK2.out.1) m n' h1 h3⟩);have hsv:=hSw;clear hSw hsr hbx;generalize hXe:wr.drew=X at *;clear hXe;have hc3:Chg [w.heap.size+2] V X:=hc.trans (Chg.of_below hsv [w.heap.size+2]) (fun g hg=>.inl hg);have hb3:=HB.out.below hsv;have h56:j < 6:=by have:=HK.out.1;omega
     obtain⟨u,hu⟩:=bv5 hb3 h56;have hz:=hb3.free j;have hst:BoxO (X.setCell ⟨w.heap.size+2,j,none⟩ (.pointer (some ⟨n2.b,0,none⟩))) 292 (w.heap.size+2) (oc ns (fun l=>if l=j then i2 else J l) j):=by
      have e:=hb3.store j (.pointer (some ⟨n2.b,0,none⟩));have e2:=rw4 ns J j i2 h56;rw[show pv ns i2=Value.pointer (some ⟨n2.b,0,none⟩) by unfold pv;rw[xq3 HK2.out.2.1]]at e2;rw[←e2];exact e
     have hc4:Chg [w.heap.size+2] V (X.setCell ⟨w.heap.size+2,j,none⟩ (.pointer (some ⟨n2.b,0,none⟩))):=hc3.setCell _ (.inl (by simp));have hj6:(j:Int) < 6:=by omega
     have HF:=Lib.hid (And.intro (show ∀l,j≤l→l < 6→Pred ns l q (if l=j then i2 else J l) from fun l h1 h2=>by
      by_cases hl:l=j
      ·subst hl
       rw[if_pos rfl];exact HP.out
      ·rw[if_neg hl]
       exact HK.out.2.2.2.2 l (by omega) h2) (And.intro hst hc4))
     clear hb3 hst hc3 hc4 h56 hsv HP;go_wp2;go_roundw
     case rel=>exact⟨j,i2,n2,_,by go_num,rfl,Lib.hid ⟨by have:=HK.out.1;omega,HK2.out.2.1,by have:=HK2.out.2.2.1;omega,HK2.out.2.2.2,HF.out.1⟩,Lib.hid (by exact HF.out.2.1),HF.out.2.2⟩
     case measure=>simp[intOf] <;>omega
    |some b=>
     obtain⟨n3,h3,rfl⟩:=iz3 HK2.out.1;obtain⟨k3,g1,g2,g3,g4⟩:=ny4 h3;have hls:=HLS.out k3 n3 (by omega) g2;rw[←HQ.out]at hls;have hless:=fun W=>kk1 n3.x x W;rw[hls]at hless;have hnd:=hsr.core.node n3 (List.mem_of_getElem? g2);generalize hxn:n3.x=y at *;have hkc:∀w',Below wr.heap.size wr w'→(w'.cell? ⟨n3.b,0,none⟩=some (.int .i64 y.s)∧w'.cell? ⟨n3.b,1,none⟩=some (.int .i64 y.k)∧w'.cell? ⟨n3.b,2,none⟩=some (.int .u64 (y.t:Int))∧w'.cell? ⟨n3.b,3,none⟩=some (.int .u64 (y.v:Int))∧w'.cell? ⟨n3.b,4,none⟩=some (.int .i64 y.x))∧(w'.cell? ⟨w.heap.size,0,none⟩=some (.int .i64 x.s)∧w'.cell? ⟨w.heap.size,1,none⟩=some (.int .i64 x.k)∧w'.cell? ⟨w.heap.size,2,none⟩=some (.int .u64 (x.t:Int))∧w'.cell? ⟨w.heap.size,3,none⟩=some (.int .u64 (x.v:Int))∧w'.cell? ⟨w.heap.size,4,none⟩=some (.int .i64 x.x)):=fun w' hb=>by
      have e1:=hnd.below hb;have e2:=hbx.below hb;exact⟨⟨e1.cell 0,e1.cell 1,e1.cell 2,e1.cell 3,e1.cell 4⟩,e2.cell 0,e2.cell 1,e2.cell 2,e2.cell 3,e2.cell 4⟩
     unfold It.val at hless
     by_cases hkq:k3 < q
     ·have hd1:decide (k3 < q)=true:=decide_eq_true hkq
      rw[hd1]at hless;have HLS2:=Lib.hid hless;have KC:=Lib.hid hkc;have H3:=Lib.hid (And.intro g2 g3);have H4:=Lib.hid g1;have HSR:=Lib.hid hsr;clear hless hkc hls hd1 hxn hnd hbx hsr g1 g2 g3 g4 h3;go_wp2_with fail;simp only[Option.map_some];refine wp_region_held_drew (S:=fun w'=>Below wr.heap.size wr w') rfl (ak (Below.refl _ _)) (fun hSw=>?_);refine wpT (i:=0) (v:=?vka0) ?hka0 hSw ?kka0
      case hka0=>(intro w hSw;(obtain⟨⟨y0,y1,y2,y3,y4⟩,x0,x1,x2,x3,x4⟩:=KC.out w hSw);go_simp;try (with_reducible rfl))
      go_simp;refine wpT (i:=1) (v:=?vka1) ?hka1 hSw ?kka1
      case hka1=>(intro w hSw;(obtain⟨⟨y0,y1,y2,y3,y4⟩,x0,x1,x2,x3,x4⟩:=KC.out w hSw);go_simp;try (with_reducible rfl))
      go_simp;refine wpT (i:=2) (v:=?vka2) ?hka2 hSw ?kka2
      case hka2=>(intro w hSw;(obtain⟨⟨y0,y1,y2,y3,y4⟩,x0,x1,x2,x3,x4⟩:=KC.out w hSw);go_simp;try (with_reducible rfl))
      go_simp;refine wpT (i:=3) (v:=?vka3) ?hka3 hSw ?kka3
      case hka3=>(intro w hSw;(obtain⟨⟨y0,y1,y2,y3,y4⟩,x0,x1,x2,x3,x4⟩:=KC.out w hSw);go_simp;try (with_reducible rfl))
      go_simp;refine wpT (i:=4) (v:=?vka4) ?hka4 hSw ?kka4
      case hka4=>(intro w hSw;(obtain⟨⟨y0,y1,y2,y3,y4⟩,x0,x1,x2,x3,x4⟩:=KC.out w hSw);go_simp;try (with_reducible rfl))
      go_simp;refine wpT (i:=5) (v:=?vka5) ?hka5 hSw ?kka5
      case hka5=>(intro w hSw;(obtain⟨⟨y0,y1,y2,y3,y4⟩,x0,x1,x2,x3,x4⟩:=KC.out w hSw);go_simp;try (with_reducible rfl))
      go_simp;refine wpT (i:=6) (v:=?vka6) ?hka6 hSw ?kka6
      case hka6=>(intro w hSw;(obtain⟨⟨y0,y1,y2,y3,y4⟩,x0,x1,x2,x3,x4⟩:=KC.out w hSw);go_simp;try (with_reducible rfl))
      go_simp;refine wpT (i:=7) (v:=?vka7) ?hka7 hSw ?kka7
      case hka7=>(intro w hSw;(obtain⟨⟨y0,y1,y2,y3,y4⟩,x0,x1,x2,x3,x4⟩:=KC.out w hSw);go_simp;try (with_reducible rfl))
      go_simp;refine wpAnyH_ready (rs:=[8]) (by kernel_rfl) (by simp) ?_;refine AllReadyH.cons rfl (fun K hK=>?_) AllReadyH.nil;go_simp
      with_reducible refine(HLS2.out _).mono ?_
      rintro e w3 ⟨rfl,hb3⟩;go_simp;refine hK.out _ _ (hSw.trans (hb3.mono hSw.size)) (fun hSn=>?_);clear hK K hSw;have hSw:=hSn;clear hSn;go_simp;refine wpT (i:=9) (v:=?vka9) ?hka9 hSw ?kka9
      case hka9=>(intro w hSw;(obtain⟨⟨y0,y1,y2,y3,y4⟩,x0,x1,x2,x3,x4⟩:=KC.out w hSw);go_simp;try (with_reducible rfl))
      go_simp;refine wpAnyH_done (by kernel_rfl) ?_ _;have hsv:=hSw;clear hSw KC HLS2;have hsr:=HSR.out.below hsv;generalize w3=X at *;have hc3:Chg [w.heap.size+2] V X:=hc.trans (Chg.of_below hsv [w.heap.size+2]) (fun g hg=>.inl hg);have hb3:=HB.out.below hsv;obtain⟨n5,⟨nl,nf⟩,nc,nc6⟩:=hsr.core.look H3.out.1 H3.out.2;have hjc:(j:Int) < (n3.c:Int):=by omega
      have hld:=lj1 n3.tb j _ X nl (hsr.core.ptr j (k3+1));have HLD:=Lib.hid hld;have HF:=Lib.hid (And.intro hb3 hc3);clear hld hsr nl nf hb3 hc3 HSR;go_wp2_with fail;refine HLD.out.mono ?_;rintro e w1 ⟨rfl,rfl⟩;clear HLD;have hm:rk ns (.pointer (some ⟨n3.b,0,none⟩)) < rk ns (.pointer (some ⟨n2.b,0,none⟩)):=by
       rw[HS3.out.core.rk H3.out.1,HS3.out.core.rk HK2.out.2.1];have h1:=(List.getElem?_eq_some_iff.1 H3.out.1).1;have h2:=H4.out;omega
      go_wp2;go_roundw
      case rel=>exact⟨k3,n3,_,rfl,rfl,Lib.hid ⟨rfl,H3.out.1,H3.out.2,hkq⟩,Lib.hid HF.out.1,HF.out.2⟩
      case measure=>exact hm
     ·have hd1:decide (k3 < q)=false:=decide_eq_false hkq
      rw[hd1]at hless;have HLS2:=Lib.hid hless;have KC:=Lib.hid hkc;have HP:=Lib.hid (show Pred ns j q i2 from ⟨HK2.out.2.2.2,⟨n2,HK2.out.2.1,HK2.out.2.2.1⟩,fun m n' h1 h2 h3=>g4 m n' h1 (by omega) h3⟩);clear hless hkc hls hd1 hxn hnd hbx hsr g1 g2 g3 g4 h3;go_wp2_with fail;simp only[Option.map_some];refine wp_region_held_drew (S:=fun w'=>Below wr.heap.size wr w') rfl (ak (Below.refl _ _)) (fun hSw=>?_);refine wpT (i:=0) (v:=?vkb0) ?hkb0 hSw ?kkb0
      case hkb0=>(intro w hSw;(obtain⟨⟨y0,y1,y2,y3,y4⟩,x0,x1,x2,x3,x4⟩:=KC.out w hSw);go_simp;try (with_reducible rfl))
      go_simp;refine wpT (i:=1) (v:=?vkb1) ?hkb1 hSw ?kkb1
      case hkb1=>(intro w hSw;(obtain⟨⟨y0,y1,y2,y3,y4⟩,x0,x1,x2,x3,x4⟩:=KC.out w hSw);go_simp;try (with_reducible rfl))
      go_simp;refine wpT (i:=2) (v:=?vkb2) ?hkb2 hSw ?kkb2
      case hkb2=>(intro w hSw;(obtain⟨⟨y0,y1,y2,y3,y4⟩,x0,x1,x2,x3,x4⟩:=KC.out w hSw);go_simp;try (with_reducible rfl))
      go_simp;refine wpT (i:=3) (v:=?vkb3) ?hkb3 hSw ?kkb3
      case hkb3=>(intro w hSw;(obtain⟨⟨y0,y1,y2,y3,y4⟩,x0,x1,x2,x3,x4⟩:=KC.out w hSw);go_simp;try (with_reducible rfl))
      go_simp;refine wpT (i:=4) (v:=?vkb4) ?hkb4 hSw ?kkb4
      case hkb4=>(intro w hSw;(obtain⟨⟨y0,y1,y2,y3,y4⟩,x0,x1,x2,x3,x4⟩:=KC.out w hSw);go_simp;try (with_reducible rfl))
      go_simp;refine wpT (i:=5) (v:=?vkb5) ?hkb5 hSw ?kkb5
      case hkb5=>(intro w hSw;(obtain⟨⟨y0,y1,y2,y3,y4⟩,x0,x1,x2,x3,x4⟩:=KC.out w hSw);go_simp;try (with_reducible rfl))
      go_simp;refine wpT (i:=6) (v:=?vkb6) ?hkb6 hSw ?kkb6
      case hkb6=>(intro w hSw;(obtain⟨⟨y0,y1,y2,y3,y4⟩,x0,x1,x2,x3,x4⟩:=KC.out w hSw);go_simp;try (with_reducible rfl))
      go_simp;refine wpT (i:=7) (v:=?vkb7) ?hkb7 hSw ?kkb7
      case hkb7=>(intro w hSw;(obtain⟨⟨y0,y1,y2,y3,y4⟩,x0,x1,x2,x3,x4⟩:=KC.out w hSw);go_simp;try (with_reducible rfl))
      go_simp;refine wpAnyH_ready (rs:=[8]) (by kernel_rfl) (by simp) ?_;refine AllReadyH.cons rfl (fun K hK=>?_) AllReadyH.nil;go_simp
      with_reducible refine(HLS2.out _).mono ?_
      rintro e w3 ⟨rfl,hb3⟩;go_simp;refine hK.out _ _ (hSw.trans (hb3.mono hSw.size)) (fun hSn=>?_);clear hK K hSw;have hSw:=hSn;clear hSn;go_simp;refine wpT (i:=9) (v:=?vkb9) ?hkb9 hSw ?kkb9
      case hkb9=>(intro w hSw;(obtain⟨⟨y0,y1,y2,y3,y4⟩,x0,x1,x2,x3,x4⟩:=KC.out w hSw);go_simp;try (with_reducible rfl))
      go_simp;refine wpAnyH_done (by kernel_rfl) ?_ _;have hsv:=hSw;clear hSw KC HLS2;generalize hXe:w3=X at *;clear hXe;have hc3:Chg [w.heap.size+2] V X:=hc.trans (Chg.of_below hsv [w.heap.size+2]) (fun g hg=>.inl hg);have hb3:=HB.out.below hsv;have h56:j < 6:=by have:=HK.out.1;omega
      obtain⟨u,hu⟩:=bv5 hb3 h56;have hz:=hb3.free j;have hst:BoxO (X.setCell ⟨w.heap.size+2,j,none⟩ (.pointer (some ⟨n2.b,0,none⟩))) 292 (w.heap.size+2) (oc ns (fun l=>if l=j then i2 else J l) j):=by
       have e:=hb3.store j (.pointer (some ⟨n2.b,0,none⟩));have e2:=rw4 ns J j i2 h56;rw[show pv ns i2=Value.pointer (some ⟨n2.b,0,none⟩) by unfold pv;rw[xq3 HK2.out.2.1]]at e2;rw[←e2];exact e
      have hc4:Chg [w.heap.size+2] V (X.setCell ⟨w.heap.size+2,j,none⟩ (.pointer (some ⟨n2.b,0,none⟩))):=hc3.setCell _ (.inl (by simp));have hj6:(j:Int) < 6:=by omega
      have HF:=Lib.hid (And.intro (show ∀l,j≤l→l < 6→Pred ns l q (if l=j then i2 else J l) from fun l h1 h2=>by
       by_cases hl:l=j
       ·subst hl
        rw[if_pos rfl];exact HP.out
       ·rw[if_neg hl]
        exact HK.out.2.2.2.2 l (by omega) h2) (And.intro hst hc4))
      clear hb3 hst hc3 hc4 h56 hsv HP;go_wp2;go_roundw
      case rel=>exact⟨j,i2,n2,_,by go_num,rfl,Lib.hid ⟨by have:=HK.out.1;omega,HK2.out.2.1,by have:=HK2.out.2.2.1;omega,HK2.out.2.2.2,HF.out.1⟩,Lib.hid (by exact HF.out.2.1),HF.out.2.2⟩
      case measure=>simp[intOf] <;>omega
end
section
open Go Go.RowKit Go.Lib
theorem nv1:∀(ns:List Nd) (i j:Nat) (n m:Nd),(ns.flatMap fun n=>[n.b,n.tb]).Nodup→ns[i]?=some n→ns[j]?=some m→(n.b=m.b→i=j)∧(n.tb=m.tb→i=j)∧n.b≠m.tb:=by
 intro ns
 induction ns with
 |nil=>intro i j n m _ hi;simp at hi
 |cons a r ih=>
  intro i j n m hd hi hj;simp only[List.flatMap_cons,List.cons_append,List.nil_append,List.nodup_cons,List.mem_cons,not_or]at hd;obtain⟨⟨h1,h2⟩,h3,h4⟩:=hd;have hin:∀(k:Nat) (u:Nd),r[k]?=some u→u.b≠a.b∧u.tb≠a.b∧u.b≠a.tb∧u.tb≠a.tb:=fun k u hu=>
   ⟨fun e=>h2 (List.mem_flatMap.2 ⟨u,List.mem_of_getElem? hu,by simp[e]⟩),fun e=>h2 (List.mem_flatMap.2 ⟨u,List.mem_of_getElem? hu,by simp[e]⟩),fun e=>h3 (List.mem_flatMap.2 ⟨u,List.mem_of_getElem? hu,by simp[e]⟩),fun e=>h3 (List.mem_flatMap.2 ⟨u,List.mem_of_getElem? hu,by simp[e]⟩)⟩
  cases i with
  |zero=>
   cases j with
   |zero=>
    simp only[gE0,Option.some.injEq]at hi hj;subst hi hj;exact⟨fun _=>rfl,fun _=>rfl,h1⟩
   |succ j=>
    simp only[gE0,Option.some.injEq,gE1]at hi hj;subst hi;obtain⟨a1,a2,a3,a4⟩:=hin j m hj;exact⟨fun e=>absurd e.symm a1,fun e=>absurd e.symm a4,fun e=>a2 e.symm⟩
  |succ i=>
   cases j with
   |zero=>
    simp only[gE0,Option.some.injEq,gE1]at hi hj;subst hj;obtain⟨a1,a2,a3,a4⟩:=hin i n hi;exact⟨fun e=>absurd e a1,fun e=>absurd e a4,a3⟩
   |succ j=>
    simp only[gE1]at hi hj;obtain⟨b1,b2,b3⟩:=ih i j n m h4 hi hj;exact⟨fun e=>by rw[b1 e],fun e=>by rw[b2 e],b3⟩
variable {w w':World} {L l j:Nat} {ns A R:List Nd} {n p:Nd}
theorem SkC.raise (h:SkC w (A++n::R)) (hn:n.h=l) (hl:l < n.c) (hj:Pred (A++n::R) l A.length j) (hp:(A++n::R)[j]?=some p):
  SkC ((w.setCell ⟨n.tb,l,none⟩ (.pointer ((nxb l ((A++n::R).drop (j+1))).map fun b=>⟨b,0,none⟩))).setCell ⟨p.tb,l,none⟩ (.pointer (some ⟨n.b,0,none⟩))) (A++{ n with h:=l+1 }::R):=by
 have hjl:=hj.lt;have hnA:(A++n::R)[A.length]?=some n:=by simp
 obtain⟨p',hp',hpl⟩:=hj.on;obtain rfl:p'=p:=by rw[hp]at hp';exact(Option.some.inj hp').symm
 have hap:=fun(i k:Nat) (a b:Nd)=>nv1 (A++n::R) i k a b h.apart;have hpn:p'.tb≠n.tb:=fun e=>by have:=(hap j A.length p' n hp hnA).2.1 e;omega
 have hc:Chg [n.tb,p'.tb] w ((w.setCell ⟨n.tb,l,none⟩ (.pointer ((nxb l ((A++n::R).drop (j+1))).map fun b=>⟨b,0,none⟩))).setCell ⟨p'.tb,l,none⟩ (.pointer (some ⟨n.b,0,none⟩))):=((Chg.refl _ w).setCell _ (.inl (by simp))).setCell _ (.inl (by simp));have hmem:∀(i:Nat) (m:Nd),i≠A.length→((A++{ n with h:=l+1 }::R)[i]?=some m↔(A++n::R)[i]?=some m):=fun i m hi=>by
  rcases Nat.lt_or_ge i A.length with h1|h1
  ·rw[List.getElem?_append_left h1,List.getElem?_append_left h1]
  ·rw[List.getElem?_append_right h1,List.getElem?_append_right h1]
   obtain⟨d,hd⟩:∃d,i - A.length=d+1:=⟨i - A.length - 1,by omega⟩;rw[hd,gE1,gE1]
 have hmA:(A++{ n with h:=l+1 }::R)[A.length]?=some { n with h:=l+1 }:=by simp
 have hr:=fun(i l':Nat) (m:Nd) (hm:(A++{ n with h:=l+1 }::R)[i]?=some m) (hl':l' < m.h)=>Go.Proofs.YthjdpplgfdihoaaGreatDoor.raise (n':={ n with h:=l+1 }) hj hn rfl rfl i l' m hm hl';refine⟨fun m hm=>?_,fun i m hi=>?_,fun m hm=>?_,?_⟩
 ·obtain⟨i,hi⟩:=List.mem_iff_getElem?.1 hm
  by_cases hiA:i=A.length
  ·subst hiA
   rw[hmA]at hi;obtain rfl:=Option.some.inj hi;refine(h.node n (List.mem_of_getElem? hnA)).chg hc ?_;simp only[List.mem_cons,List.not_mem_nil,or_false,not_or];exact⟨(hap _ _ _ _ hnA hnA).2.2,(hap _ _ _ _ hnA hp).2.2⟩
  ·rw[hmem i m hiA]at hi
   refine(h.node m (List.mem_of_getElem? hi)).chg hc ?_;simp only[List.mem_cons,List.not_mem_nil,or_false,not_or];exact⟨(hap _ _ _ _ hi hnA).2.2,(hap _ _ _ _ hi hp).2.2⟩
 ·by_cases hiA:i=A.length
  ·subst hiA
   rw[hmA]at hi;obtain rfl:=Option.some.inj hi;obtain⟨cs,h1,h2,h3⟩:=h.tower A.length n hnA;refine⟨_,(h1.store l _).chg (pz _ ⟨p'.tb,l,none⟩ _) (by simpa using fun e=>hpn e.symm),by rw[List.length_set];exact h2,fun l' hl'=>?_⟩;rw[hr A.length l' _ hmA hl',if_neg (by omega)]
   by_cases hll:l'=l
   ·subst hll
    rw[if_pos ⟨rfl,rfl⟩,List.getElem?_set_self (by omega)]
   ·rw[if_neg (by omega),List.getElem?_set_ne (by omega)]
    simp only at hl';exact h3 l' (by omega)
  ·have hi2:=(hmem i m hiA).1 hi
   obtain⟨cs,h1,h2,h3⟩:=h.tower i m hi2
   by_cases hij:i=j
   ·subst hij
    rw[hp]at hi2;obtain rfl:=Option.some.inj hi2;refine⟨_,(h1.chg (pz w ⟨n.tb,l,none⟩ _) (by simpa using hpn)).store l _,by rw[List.length_set];exact h2,fun l' hl'=>?_⟩;rw[hr i l' _ hi hl'];have:=(h.cap p' (List.mem_of_getElem? hp)).1
    by_cases hll:l'=l
    ·subst hll
     rw[if_pos ⟨rfl,rfl⟩,List.getElem?_set_self (by omega)];rfl
    ·rw[if_neg (by omega),if_neg (by omega),List.getElem?_set_ne (by omega)]
     exact h3 l' hl'
   ·refine⟨cs,h1.chg hc ?_,h2,fun l' hl'=>?_⟩
    ·simp only[List.mem_cons,List.not_mem_nil,or_false,not_or]
     exact⟨fun e=>hiA ((hap _ _ _ _ hi2 hnA).2.1 e),fun e=>hij ((hap _ _ _ _ hi2 hp).2.1 e)⟩
    ·rw[hr i l' _ hi hl',if_neg (by omega),if_neg (by omega)]
     exact h3 l' hl'
 ·obtain⟨i,hi⟩:=List.mem_iff_getElem?.1 hm
  by_cases hiA:i=A.length
  ·subst hiA
   rw[hmA]at hi;obtain rfl:=Option.some.inj hi;exact⟨hl,(h.cap n (List.mem_of_getElem? hnA)).2⟩
  ·exact h.cap m (List.mem_of_getElem? ((hmem i m hiA).1 hi))
 ·have:=h.apart
  simpa using this
theorem SkC.insert (h:SkC w (A++R)) (hn:n.h=0) (hc:n.c≤6) (hb:BoxO w 300 n.b (n.x.cells++[.slice (some ⟨n.tb,0,none⟩) n.c n.c])) (ht:BoxO w 297 n.tb (List.replicate n.c (.pointer none))) (hne:n.b≠n.tb)
  (h1:n.b∉(A++R).flatMap fun n=>[n.b,n.tb]) (h2:n.tb∉(A++R).flatMap fun n=>[n.b,n.tb]):SkC w (A++n::R):=by
 have hin:∀m,m∈A++n::R↔m=n∨m∈A++R:=fun m=>by simp[or_left_comm]
 refine⟨fun m hm=>?_,fun i m hi=>?_,fun m hm=>?_,?_⟩
 ·rcases (hin m).1 hm with rfl|h3
  ·exact hb
  ·exact h.node m h3
 ·have key:∀l,nxb l ((A++n::R).drop (i+1))=nxb l ((A++R).drop (if i < A.length then i+1 else i)):=fun l=>by
   rcases Nat.lt_or_ge i A.length with h3|h3
   ·rw[if_pos h3,List.drop_append_of_le_length (by omega),List.drop_append_of_le_length (by omega)]
    exact zq4 hn
   ·have e1:A.drop (i+1)=[]:=List.drop_eq_nil_of_le (by omega)
    have e2:A.drop i=[]:=List.drop_eq_nil_of_le (by omega);rw[if_neg (by omega),List.drop_append,List.drop_append,e1,e2,List.nil_append,List.nil_append,show i+1 - A.length=(i - A.length)+1 by omega,List.drop_succ_cons]
  rcases Nat.lt_trichotomy i A.length with h3|h3|h3
  ·rw[List.getElem?_append_left h3]at hi
   obtain⟨cs,a,b,c⟩:=h.tower i m (by rw[List.getElem?_append_left h3];exact hi);exact⟨cs,a,b,fun l hl=>by rw[key,if_pos h3];exact c l hl⟩
  ·subst h3
   rw[List.getElem?_append_right (Nat.le_refl _),Nat.sub_self,gE0]at hi;obtain rfl:=Option.some.inj hi;exact⟨_,ht,by simp,fun l hl=>by omega⟩
  ·obtain⟨k,rfl⟩:∃k,i=A.length+k+1:=⟨i - A.length - 1,by omega⟩
   rw[List.getElem?_append_right (by omega),show A.length+k+1 - A.length=k+1 by omega,gE1]at hi;obtain⟨cs,a,b,c⟩:=h.tower (A.length+k) m (by rw[List.getElem?_append_right (by omega),show A.length+k - A.length=k by omega];exact hi);exact⟨cs,a,b,fun l hl=>by rw[key,if_neg (by omega)];exact c l hl⟩
 ·rcases (hin m).1 hm with rfl|h3
  ·exact⟨by omega,hc⟩
  ·exact h.cap m h3
 ·have h3:=h.apart
  rw[List.flatMap_append]at h3 h1 h2 ⊢;rw[List.flatMap_cons];refine(List.perm_append_comm_assoc _ _ _).nodup_iff.2 ?_;simp only[List.cons_append,List.nil_append,List.nodup_cons,List.mem_cons,not_or];exact⟨⟨hne,h1⟩,h2,h3⟩
theorem SkAt.setx {k:Nat} {x:It} (h:SkAt w L ns) (hk:ns[k+1]?=some n) (hR:bq1 ((its ns).set k x)) (c:Chg [n.b] w w') (hb:BoxO w' 300 n.b (x.cells++[.slice (some ⟨n.tb,0,none⟩) n.c n.c])):
  SkAt w' L (ns.set (k+1) { n with x:=x })∧its (ns.set (k+1) { n with x:=x })=(its ns).set k x∧skF L (ns.set (k+1) { n with x:=x })=skF L ns:=by
 have hkl:k+1 < ns.length:=(List.getElem?_eq_some_iff.1 hk).1;have hkg:ns[k+1]=n:=(List.getElem?_eq_some_iff.1 hk).2;have hfl:∀ns:List Nd,∀(k:Nat) (n:Nd),ns[k]?=some n→(ns.set k { n with x:=x }).flatMap (fun n=>[n.b,n.tb])=ns.flatMap fun n=>[n.b,n.tb]:=by
  intro ns
  induction ns with
  |nil=>intro k n h;simp at h
  |cons a r ih=>
   intro k n h
   cases k with
   |zero=>
    simp only[gE0,Option.some.injEq]at h;subst h;simp
   |succ k=>
    rw[gE1]at h;simp[ih k n h]
 have hnx:∀ns:List Nd,∀(k l i:Nat) (n:Nd),ns[k]?=some n→nxb l ((ns.set k { n with x:=x }).drop i)=nxb l (ns.drop i):=by
  intro ns k l i n h;have hl:k < ns.length:=(List.getElem?_eq_some_iff.1 h).1;have hg:ns[k]=n:=(List.getElem?_eq_some_iff.1 h).2
  rcases Nat.lt_or_ge k i with h1|h1
  ·rw[List.drop_set_of_lt h1]
  ·rw[List.drop_set,if_neg (by omega),List.set_eq_take_append_cons_drop,if_pos (by rw[List.length_drop];omega)]
   have e:ns.drop i=(ns.drop i).take (k - i)++n::(ns.drop i).drop (k - i+1):=by
    have h2:k - i < (ns.drop i).length:=by rw[List.length_drop];omega
    have h3:(ns.drop i)[k - i]=n:=by rw[List.getElem_drop,←hg];congr 1;omega
    rw[←h3,List.getElem_cons_drop,List.take_append_drop]
   conv=>rhs;rw[e]
   exact gy3 rfl Iff.rfl
 have hap:=fun(i:Nat) (a:Nd) (hi:ns[i]?=some a)=>nv1 ns i (k+1) a n h.core.apart hi hk;have hits:its (ns.set (k+1) { n with x:=x })=(its ns).set k x:=by
  unfold its;rw[List.drop_set,if_neg (by omega),Nat.add_sub_cancel,List.map_set]
 have hget:∀(i:Nat) (m:Nd),(ns.set (k+1) { n with x:=x })[i]?=some m→(i=k+1∧m={ n with x:=x })∨(i≠k+1∧ns[i]?=some m):=fun i m hi=>by
  by_cases hik:i=k+1
  ·subst hik
   rw[List.getElem?_set_self (by omega)]at hi;exact .inl ⟨rfl,(Option.some.inj hi).symm⟩
  ·rw[List.getElem?_set_ne (by omega)]at hi
   exact .inr ⟨hik,hi⟩
 have hnt:n.tb∉[n.b]:=by
  have:=(hap (k+1) n hk).2.2;simpa using this.symm
 obtain⟨hd,tl,hns,h6,hL⟩:=h.head;have hLb:L∉[n.b]:=fun e=>h.out (List.mem_flatMap.2 ⟨n,List.mem_of_getElem? hk,by rw[List.mem_singleton.1 e];simp⟩);refine⟨⟨⟨fun m hm=>?_,fun i m hi=>?_,fun m hm=>?_,?_⟩,⟨hd,tl.set k { n with x:=x },by rw[hns,List.set_cons_succ],h6,by rw[List.length_set];exact hL.chg c hLb⟩,?_,fun m hm=>?_,?_⟩,hits,?_⟩
 ·obtain⟨i,hi⟩:=List.mem_iff_getElem?.1 hm
  rcases hget i m hi with ⟨rfl,rfl⟩|⟨h1,h2⟩
  ·exact hb
  ·exact(h.core.node m (List.mem_of_getElem? h2)).chg c (by simpa using fun e=>h1 ((hap i m h2).1 e))
 ·rcases hget i m hi with ⟨rfl,rfl⟩|⟨h1,h2⟩
  ·obtain⟨cs,a1,a2,a3⟩:=h.core.tower _ n hk
   exact⟨cs,a1.chg c hnt,a2,fun l hl=>by rw[hnx ns (k+1) l _ n hk];exact a3 l hl⟩
  ·obtain⟨cs,a1,a2,a3⟩:=h.core.tower i m h2
   exact⟨cs,a1.chg c (by simpa using fun e=>(nv1 ns (k+1) i n m h.core.apart hk h2).2.2 e.symm),a2,fun l hl=>by rw[hnx ns (k+1) l _ n hk];exact a3 l hl⟩
 ·obtain⟨i,hi⟩:=List.mem_iff_getElem?.1 hm
  rcases hget i m hi with ⟨rfl,rfl⟩|⟨h1,h2⟩
  ·exact h.core.cap n (List.mem_of_getElem? hk)
  ·exact h.core.cap m (List.mem_of_getElem? h2)
 ·rw[hfl ns (k+1) n hk]
  exact h.core.apart
 ·rw[hfl ns (k+1) n hk]
  exact h.out
 ·obtain⟨i,hi⟩:=List.mem_iff_getElem?.1 hm
  rcases hget i m hi with ⟨rfl,rfl⟩|⟨h1,h2⟩
  ·exact h.tall n (List.mem_of_getElem? hk)
  ·exact h.tall m (List.mem_of_getElem? h2)
 ·rw[hits]
  exact hR
 ·unfold skF
  rw[hfl ns (k+1) n hk]
end
section
namespace Pn
theorem az3 (ns:List Nat) (a r:List UInt8) (out:List Nat) (hns:∀n∈ns,n < 2 ^ 64):unlistF ns.length a.length (a++(ns.flatMap put++r)) out=(out++ns,a.length+(ns.flatMap put).length,0):=by
 induction ns generalizing a out with
 |nil=>simp[unlistF]
 |cons n ns ih=>
  have e:a++((n::ns).flatMap put++r)=a++(put n++(ns.flatMap put++r)):=by simp
  rw[e,List.length_cons,unlistF,List.drop_left,oq n _ (hns n (by simp))];simp only;have e2:a++(put n++(ns.flatMap put++r))=(a++put n)++(ns.flatMap put++r):=by simp
  rw[e2,show a.length+(put n).length=(a++put n).length by simp,ih (a++put n) (out++[n]) (fun x hx=>hns x (by simp[hx]))];simp[Nat.add_assoc]
theorem xk2 (ns:List Nat) (r:List UInt8) (most:Nat) (hl:ns.length≤most) (hm:most < 2 ^ 64) (hns:∀n∈ns,n < 2 ^ 64):ry (list ns++r) most=(ns,(list ns).length,0):=by
 have e:list ns++r=put ns.length++(ns.flatMap put++r):=by simp[list]
 unfold ry;rw[e,oq _ _ (by omega)];simp only;rw[if_neg (by omega),az3 ns (put ns.length) r [] hns];simp[list]
theorem xz1:∀(k at_:Nat) (l:List UInt8) (out:List Nat),(unlistF k at_ l out).2.2=0→(unlistF k at_ l out).1.length=out.length+k
 |0,at_,l,out,_=>by simp[unlistF]
 |k+1,at_,l,out,h=>by
  rw[unlistF]at h ⊢;split at h
  ·rename_i x s hx
   rw[xz1 k _ l _ h];simp;omega
  ·rename_i x s e hne hx
   exact absurd h (hne ·)
end Pn
abbrev Rd:=List UInt8×Bool
namespace Rd
def take (most:Nat) (r:Rd):Nat×Rd:=
 if r.2=true∧(Pn.take r.1).2.2=0∧(Pn.take r.1).1≤most then ((Pn.take r.1).1,(r.1.drop (Pn.take r.1).2.1,true)) else (0,(r.1,false))
def files (r:Rd):Nat→List (Int×Int)×Rd
 |0=>([],r)
 |k+1=>((files r k).1++[(((take 3 (files r k).2).1:Int),((take 1073741824 (take 3 (files r k).2).2).1:Int))],(take 1073741824 (take 3 (files r k).2).2).2)
theorem oq {n most:Nat} (r:List UInt8) (h:n≤most) (hm:most < 2 ^ 64):take most (Pn.put n++r,true)=(n,(r,true)):=by
 unfold take;simp only[Pn.oq n r (by omega)];rw[if_pos (by simpa using h),List.drop_left]
theorem jw1 (most:Nat) (r:Rd):(take most r).1≤most:=by
 unfold take;split
 ·exact(by assumption:_∧_∧_).2.2
 ·exact Nat.zero_le _
theorem rj2 (fs:List (Int×Int)) (r:List UInt8) (h:fs.all vz=true):∀k,k≤fs.length→files ((fs.flatMap fun f=>Pn.put f.1.toNat++Pn.put f.2.toNat)++r,true) k=(fs.take k,((fs.drop k).flatMap (fun f=>Pn.put f.1.toNat++Pn.put f.2.toNat)++r,true))
 |0,_=>by simp[files]
 |k+1,hk=>by
  have hf:vz fs[k]=true:=List.all_eq_true.1 h _ (List.getElem_mem (by omega));rw[List.take_succ_eq_append_getElem (by omega)];have hd:fs.drop k=fs[k]::fs.drop (k+1):=List.drop_eq_getElem_cons (by omega);generalize fs[k]=f at *;simp only[vz,isNum,Bool.and_eq_true,decide_eq_true_eq]at hf;rw[files,rj2 fs r h k (by omega),hd,List.flatMap_cons,List.append_assoc,List.append_assoc];simp only;rw[oq _ (by omega) (by omega)];simp only;rw[oq _ (by omega) (by omega)];simp only;rw[show ((f.1.toNat:Nat):Int)=f.1 by omega,show ((f.2.toNat:Nat):Int)=f.2 by omega]
end Rd
def Ed.zero:Ed:=⟨[],[],0,0,0,0,0⟩
def Rd.tail (drop:List Int) (fs:List (Int×Int)) (r0:Rd):Ed×Rd:=
 (⟨drop,fs,((Rd.take 1073741824 r0).1:Int),(Rd.take 281474976710656 (Rd.take 1073741824 r0).2).1,(Rd.take 281474976710656 (Rd.take 281474976710656 (Rd.take 1073741824 r0).2).2).1,
  (Rd.take 281474976710656 (Rd.take 281474976710656 (Rd.take 281474976710656 (Rd.take 1073741824 r0).2).2).2).1,
  (Rd.take 281474976710656 (Rd.take 281474976710656 (Rd.take 281474976710656 (Rd.take 281474976710656 (Rd.take 1073741824 r0).2).2).2).2).1⟩,
  (Rd.take 281474976710656 (Rd.take 281474976710656 (Rd.take 281474976710656 (Rd.take 281474976710656 (Rd.take 1073741824 r0).2).2).2).2).2)
def Ed.scan (b:List UInt8):Ed×Rd:=
 Rd.tail ((Pn.ry b 40).1.map fun n=>((min n 1073741825:Nat):Int))
  (Rd.files (Rd.take 40 (b.drop (Pn.ry b 40).2.1,true)).2 (Rd.take 40 (b.drop (Pn.ry b 40).2.1,true)).1).1
  (Rd.files (Rd.take 40 (b.drop (Pn.ry b 40).2.1,true)).2 (Rd.take 40 (b.drop (Pn.ry b 40).2.1,true)).1).2
def Ed.good (p:Ed×Rd):Bool:=p.2.2&&p.2.1.isEmpty&&p.1.may
def Ed.read (b:List UInt8):Ed×Nat:=
 if (Pn.ry b 40).2.2≠0 then (Ed.zero,3) else if Ed.good (Ed.scan b)=true then ((Ed.scan b).1,0) else (Ed.zero,3)
theorem Ed.nj4 {b:List UInt8} (h:(Ed.read b).2=0):(Ed.read b).1.may=true:=by
 unfold Ed.read at h ⊢;split
 ·rw[if_pos (by assumption)]at h;cases h
 ·rw[if_neg (by assumption)]at h
  split
  ·have hg:=(by assumption:Ed.good (Ed.scan b)=true)
   simp only[Ed.good,Bool.and_eq_true]at hg;exact hg.2
  ·rw[if_neg (by assumption)]at h;cases h
theorem Ed.qz1 (e:Ed) (h:e.may=true):Ed.read e.bytes=(e,0):=by
 obtain⟨drop,add,log,f,c,a,l⟩:=e;have hm:=h;simp only[Ed.may,ty1,Bool.and_eq_true,decide_eq_true_eq]at hm;obtain⟨⟨⟨⟨⟨h1,h2⟩,h3⟩,h4⟩,h5⟩,h6⟩:=hm;have hd:∀n∈drop,1≤n∧n≤1073741824:=fun n hn=>by
  have:=List.all_eq_true.1 h5 n hn;simpa [isNum] using this
 obtain⟨r,hr⟩:∃r,r=Pn.put add.length++(add.flatMap (fun f=>Pn.put f.1.toNat++Pn.put f.2.toNat)++(Pn.put log.toNat++(Pn.put f++(Pn.put c++(Pn.put a++Pn.put l))))):=⟨_,rfl⟩;have hb:Ed.bytes ⟨drop,add,log,f,c,a,l⟩=Pn.list (drop.map Int.toNat)++r:=by rw[hr];rfl
 have hu:=Pn.xk2 (drop.map Int.toNat) r 40 (by simpa using h1) (by omega) (fun n hn=>by
  obtain⟨x,hx,rfl⟩:=List.mem_map.1 hn;have:=hd x hx;omega)
 have hdr:(drop.map Int.toNat).map (fun n=>((min n 1073741825:Nat):Int))=drop:=by
  rw[List.map_map];refine(List.map_congr_left fun x hx=>?_).trans (List.map_id _);have:=hd x hx;simp;omega
 have h0:Rd.take 40 (r,true)=(add.length,(add.flatMap (fun f=>Pn.put f.1.toNat++Pn.put f.2.toNat)++(Pn.put log.toNat++(Pn.put f++(Pn.put c++(Pn.put a++Pn.put l)))),true)):=by
  rw[hr,Rd.oq _ h2 (by omega)]
 have hf:=Rd.rj2 add (Pn.put log.toNat++(Pn.put f++(Pn.put c++(Pn.put a++Pn.put l)))) h6 add.length (Nat.le_refl _);rw[List.take_length,List.drop_length,List.flatMap_nil,List.nil_append]at hf;have hs:Ed.scan (Ed.bytes ⟨drop,add,log,f,c,a,l⟩)=(⟨drop,add,log,f,c,a,l⟩,([],true)):=by
  unfold Ed.scan;rw[hb,hu];simp only;rw[List.drop_left,h0];simp only;rw[hf,hdr];unfold Rd.tail;simp only;rw[Rd.oq _ (by omega) (by omega)];simp only;rw[Rd.oq _ (by omega) (by omega)];simp only;rw[Rd.oq _ (by omega) (by omega)];simp only;rw[Rd.oq _ (by omega) (by omega)];simp only;rw[show Pn.put l=Pn.put l++[] by simp,Rd.oq _ (by omega) (by omega)];simp only;rw[show ((log.toNat:Nat):Int)=log by omega]
 unfold Ed.read;rw[hs,hb,hu];simp only[ne_eq,not_true_eq_false,if_false];rw[if_pos (by simp[Ed.good,h])]
def Vw.step (o:Option Vw) (p:Nat×List UInt8):Option Vw:=match o with
 |none=>none
 |some v=>if (Ed.read p.2).2=0∧p.1=6 then v.app (Ed.read p.2).1 else none
def Vw.steps (l:List (Nat×List UInt8)):Option Vw:=l.foldl Vw.step (some Vw.none_)
theorem Vw.mv3 {l:List (Nat×List UInt8)} {k:Nat} (h:k < l.length):Vw.steps (l.take (k+1))=Vw.step (Vw.steps (l.take k)) l[k]:=by
 unfold Vw.steps;rw[List.take_succ_eq_append_getElem h,List.foldl_append];rfl
theorem Vw.cy2:∀l:List (Nat×List UInt8),l.foldl Vw.step none=none
 |[]=>rfl
 |_::r=>Vw.cy2 r
theorem Vw.qw3 {l:List (Nat×List UInt8)} {k:Nat} (h:Vw.steps (l.take k)=none):Vw.steps l=none:=by
 unfold Vw.steps at *;rw[←List.take_append_drop k l,List.foldl_append,h];exact Vw.cy2 _
def Vw.views (t:List UInt8):Option (Vw×Nat×Nat):=
 if ((Fr.split t).2.2.2≠0∧(Fr.split t).2.2.2≠4)∨(Fr.split t).2.1=[] then none
 else (Vw.steps ((Fr.split t).1.zip (Fr.split t).2.1)).map fun v=>(v,(Fr.split t).2.1.length,(Fr.split t).2.2.1)
theorem Vw.bk5 {v v':Vw} {e:Ed} (h:v.app e=some v'):v'.ok=true:=by
 unfold Vw.app at h
 cases hd:dropAll e.drop v.files with
 |none=>rw[hd]at h;cases h
 |some fs=>
  rw[hd]at h;simp only at h;generalize ({ log:=if e.log=0 then v.log else e.log,files:=fs++e.add,floor:=orElse e.floor v.floor,cert:=orElse e.cert v.cert,at_:=orElse e.at_ v.at_,lease:=orElse e.lease v.lease }:Vw)=x at h
  by_cases hx:x.ok=true
  ·rw[if_pos hx]at h
   injection h with h
   rwa [←h]
  ·rw[if_neg hx]at h
   cases h
theorem Vw.qy3 (es:List Ed) (h:∀e∈es,e.may=true):Vw.steps (es.map fun e=>(6,e.bytes))=Vw.none_.run es:=by
 have key:∀(es:List Ed) (o:Option Vw),(∀e∈es,e.may=true)→(es.map fun e=>((6:Nat),e.bytes)).foldl Vw.step o=o.bind fun v=>v.run es:=by
  intro es
  induction es with
  |nil=>intro o _;cases o<;>rfl
  |cons e r ih=>
   intro o h;simp only[List.map_cons,List.foldl_cons];rw[ih _ (fun x hx=>h x (by simp[hx]))]
   cases o with
   |none=>rfl
   |some v=>
    unfold Vw.step;simp only[Ed.qz1 e (h e (by simp)),true_and,if_true,Option.bind,Vw.run]
    cases v.app e<;>rfl
 exact key es (some Vw.none_) h
theorem wk2 (es:List Ed):(List.replicate es.length 6).zip (es.map Ed.bytes)=es.map fun e=>((6:Nat),e.bytes):=by
 induction es with
 |nil=>rfl
 |cons e r ih=>simp[List.replicate_succ,ih]
def Ed.text (es:List Ed):List UInt8:=Fr.all 6 (es.map Ed.bytes)
theorem Ed.uw3 (es:List Ed) (e:Ed):Ed.text (es++[e])=Ed.text es++e.rec_:=by simp[Ed.text,Fr.all,Ed.rec_]
theorem Vw.rz3 (es:List Ed) (h:∀e∈es,e.may=true) (h0:es≠[]) (e:Ed) (he:e.may=true) (n:Nat) (hn:n < e.rec_.length):
  Vw.views (Ed.text es++e.rec_.take n)=(Vw.none_.run es).map fun v=>(v,es.length,(Ed.text es).length):=by
 have hb:∀b∈es.map Ed.bytes,b.length≤60000:=fun b hb=>by
  obtain⟨x,hx,rfl⟩:=List.mem_map.1 hb;have:=Ed.cz1 x (h x hx);omega
 have hs:∃er,(er=0∨er=4)∧Fr.split (Ed.text es++e.rec_.take n)=(List.replicate es.length 6,es.map Ed.bytes,(Ed.text es).length,er):=by
  rcases Nat.eq_zero_or_pos n with rfl|hn0
  ·refine⟨0,.inl rfl,?_⟩
   have:=Fr.oz2 6 (by decide) (by decide) (es.map Ed.bytes) hb;simpa [Ed.text] using this
  ·refine⟨4,.inr rfl,?_⟩
   have hl:=Ed.cz1 e he;have:=Fr.tx3 6 (by decide) (by decide) (es.map Ed.bytes) hb e.bytes (by omega) n hn0 hn;simpa [Ed.text,Ed.rec_] using this
 obtain⟨er,her,hs⟩:=hs;unfold Vw.views;rw[hs];simp only;rw[if_neg (by
  simp only[not_or,not_and,List.map_eq_nil_iff];exact⟨fun a b=>by omega,h0⟩),wk2,Vw.qy3 es h]
 simp
theorem Vw.nz3 (es:List Ed) (h:∀e∈es,e.may=true) (h0:es≠[]):
  Vw.views (Ed.text es)=(Vw.none_.run es).map fun v=>(v,es.length,(Ed.text es).length):=by
 have h1:=Vw.rz3 es h h0 Ed.zero (by decide) 0 (by rw[Ed.rec_,Fr.qw];omega);simpa using h1
end
section
open Go Go.RowKit
def dw (fs:List (Int×Int)):List Value:=fs.flatMap fun f=>[.int .i64 f.1,.int .i64 f.2]
theorem fw1 (fs:List (Int×Int)):(dw fs).length=fs.length *2:=by
 induction fs with
 |nil=>rfl
 |cons f t ih=>simp only[dw,List.flatMap_cons,List.length_append,List.length_cons]at ih ⊢;simp only[List.length_nil]at *;omega
theorem sj1 (a b:List (Int×Int)):dw (a++b)=dw a++dw b:=by simp[dw]
theorem fj1 (fs:List (Int×Int)):∀u∈dw fs,u.oneCell'=true:=by
 intro u hu;obtain⟨f,_,h⟩:=List.mem_flatMap.1 hu;simp at h
 rcases h with rfl|rfl<;>rfl
theorem dv2:∀(fs:List (Int×Int)) (k:Nat) (hk:k < fs.length),(dw fs)[k *2]?=some (.int .i64 (fs[k]).1)∧(dw fs)[k *2+1]?=some (.int .i64 (fs[k]).2)
 |f::t,0,_=>by simp[dw]
 |f::t,k+1,hk=>by
  have ih:=dv2 t k (by simpa using hk);have e:dw (f::t)=.int .i64 f.1::.int .i64 f.2::dw t:=by simp[dw]
  rw[e,show (k+1)*2=k *2+1+1 by omega,show k *2+1+1+1=(k *2+1)+1+1 by omega];simpa using ih
theorem gy1:∀(fs:List (Int×Int)) (k:Nat),dw (fs.take k)=(dw fs).take (k *2)
 |fs,0=>by simp[dw]
 |[],k+1=>by simp[dw]
 |f::t,k+1=>by
  have ih:=gy1 t k;have e:∀t,dw (f::t)=.int .i64 f.1::.int .i64 f.2::dw t:=fun t=>by simp[dw]
  rw[List.take_succ_cons,e,e,ih,show (k+1)*2=k *2+1+1 by omega];simp
theorem by3 (fs:List (Int×Int)) (k:Nat):dw (fs.drop k)=(dw fs).drop (k *2):=by
 have h1:=sj1 (fs.take k) (fs.drop k);rw[List.take_append_drop,gy1]at h1;have h2:=List.take_append_drop (k *2) (dw fs);rw[h1]at h2;rw[←h1]at h2;exact(List.append_cancel_left (h2.trans h1)).symm
structure FAt (B:Nat) (w:World) (a:Addr) (k:Nat) (f:Int×Int):Prop where
 blk:a.block < B
 c0:w.cell? (a.add (k *2))=some (.int .i64 f.1)
 c1:w.cell? ⟨(a.add (k *2)).block,(a.add (k *2)).off+1,none⟩=some (.int .i64 f.2)
theorem bk4 (a:Addr) (k:Nat) {j:Nat} (hj:0 < j):a.add (k+j)=⟨(a.add k).block,(a.add k).off+j,none⟩:=by
 rw[←vv1,Addr.add,if_neg (by omega)]
variable {B n:Nat} {w w':World} {A:Option Addr} {fs:List (Int×Int)}
theorem Row.flen (h:Row B w A n 2 (dw fs)):fs.length=n:=by
 have:=h.len;rw[fw1]at this;omega
theorem Row.file (h:Row B w A n 2 (dw fs)) {k:Nat} (hk:k < n):∃a,∃hl:k < fs.length,A=some a∧FAt B w a k fs[k]:=by
 have hl:k < fs.length:=by have:=h.flen;omega
 have hlen:=fw1 fs;obtain⟨g0,g1⟩:=dv2 fs k hl;obtain⟨a,e,hb,c0⟩:=h.cell (k *2) (by omega);obtain⟨a',e',_,c1⟩:=h.cell (k *2+1) (by omega);rw[e]at e';injection e' with e';subst e';rw[List.getElem?_eq_getElem (by omega)]at g0 g1;injection g0 with g0;injection g1 with g1;rw[g0]at c0;rw[g1,bk4 a (k *2) (by omega)]at c1;exact⟨a,hl,e,hb,c0,c1⟩
def uz (ns:List Int):List Value:=ns.map fun n=>.int .i64 n
theorem kx3 (ns:List Int) (k:Nat):(uz ns)[k]?=(ns[k]?).map fun n=>.int .i64 n:=by simp[uz]
theorem Row.ilen {ns:List Int} (h:Row B w A n 1 (uz ns)):ns.length=n:=by
 have:=h.len;simp[uz]at this;omega
theorem Row.int_ {ns:List Int} (h:Row B w A n 1 (uz ns)) {k:Nat} (hk:k < n):∃a,∃hl:k < ns.length,A=some a∧a.block < B∧w.cell? (a.add k)=some (.int .i64 ns[k]):=by
 obtain⟨a,v,e,hb,hv,hc⟩:=h.at1 hk;have hl:k < ns.length:=by have:=h.ilen;omega
 rw[kx3,List.getElem?_eq_getElem hl]at hv;injection hv with hv;subst hv;exact⟨a,hl,e,hb,hc⟩
theorem ox1 (n:Int) (w:World):Calls Tryz.prog 283 #[.int .i64 n] w fun e w'=>e=.returned (.bool (isNum n))∧w=w':=by
 obtain⟨b,hb⟩:∃b,b=isNum n:=⟨_,rfl⟩;rw[←hb];unfold isNum at hb;have HB:=Lib.hid hb;clear hb;go_enter Tryz.func283,Tryz.ntmps283
 by_cases h1:1≤n
 ·by_cases h2:n≤1073741824
  ·go_wp2
   go_ret;exact⟨by rw[HB.out];simp[h1,h2],rfl⟩
  ·go_wp2
   go_ret;exact⟨by rw[HB.out];simp[h2],rfl⟩
 ·go_wp2
  go_ret;exact⟨by rw[HB.out];simp;omega,rfl⟩
theorem iq2 (f:Int×Int) (w:World):Calls Tryz.prog 285 #[.agg #[.int .i64 f.1,.int .i64 f.2]] w fun e w'=>e=.returned (.bool (vz f))∧Below w.heap.size w w':=by
 obtain⟨l,n⟩:=f;obtain⟨b,hb⟩:∃b,b=vz (l,n):=⟨_,rfl⟩;rw[←hb];unfold vz at hb;simp only at hb ⊢
 cases hn:isNum n with
 |false=>
  rw[hn]at hb;have hq:=ox1 n;rw[hn]at hq;have HB:=Lib.hid hb;clear hb hn;go_enter Tryz.func285,Tryz.ntmps285;go_wp2_with fail;refine(hq _).mono ?_;rintro e w1 ⟨rfl,rfl⟩;go_wp2;go_ret;exact⟨by rw[HB.out];rfl,(Below.refl _ _).alloc (Nat.le_refl _) _⟩
 |true=>
  rw[hn]at hb;have hq:=ox1 n;rw[hn]at hq;have HB:=Lib.hid hb;clear hb hn
  by_cases h1:0≤l
  ·by_cases h2:l≤3
   ·go_enter Tryz.func285,Tryz.ntmps285
    go_wp2_with fail;refine(hq _).mono ?_;rintro e w1 ⟨rfl,rfl⟩;go_wp2;go_ret;exact⟨by rw[HB.out];simp[h1,h2],(Below.refl _ _).alloc (Nat.le_refl _) _⟩
   ·go_enter Tryz.func285,Tryz.ntmps285
    go_wp2_with fail;refine(hq _).mono ?_;rintro e w1 ⟨rfl,rfl⟩;go_wp2;go_ret;exact⟨by rw[HB.out];simp;omega,(Below.refl _ _).alloc (Nat.le_refl _) _⟩
  ·go_enter Tryz.func285,Tryz.ntmps285
   go_wp2_with fail;refine(hq _).mono ?_;rintro e w1 ⟨rfl,rfl⟩;go_wp2;go_ret;exact⟨by rw[HB.out];simp;omega,(Below.refl _ _).alloc (Nat.le_refl _) _⟩
theorem uy4 (f:Int×Int) (b:Nat) (m:Int) (w:World) (hc:w.cell? ⟨b,1,none⟩=some (.int .i64 m)):
  Calls Tryz.prog 287 #[.agg #[.int .i64 f.1,.int .i64 f.2],.pointer (some ⟨b,0,none⟩)] w fun e w'=>e=.returned (.bool (f.2==m))∧Below w.heap.size w w':=by
 have hc1:∀o,(w.alloc o).cell? ⟨b,1,none⟩=some (.int .i64 m):=fun o=>(World.cell?_alloc_lt w o _ (World.block_lt_of_cell? w _ hc)).trans hc;go_enter Tryz.func287,Tryz.ntmps287;go_wp2;go_ret;exact⟨rfl,(Below.refl _ _).alloc (Nat.le_refl _) _⟩
theorem tw4 (f:Int×Int) (p:Addr) (m:Int) (w:World) (hc:w.cell? p=some (.int .i64 m)):
  Calls Tryz.prog 293 #[.agg #[.int .i64 f.1,.int .i64 f.2],.pointer (some p)] w fun e w'=>e=.returned (.bool (f.2==m))∧Below w.heap.size w w':=by
 have hc1:∀o,(w.alloc o).cell? p=some (.int .i64 m):=fun o=>(World.cell?_alloc_lt w o _ (World.block_lt_of_cell? w _ hc)).trans hc;go_enter Tryz.func293,Tryz.ntmps293;go_wp2;go_ret;exact⟨rfl,(Below.refl _ _).alloc (Nat.le_refl _) _⟩
theorem ov4 (f:Int×Int) (w:World):Calls Tryz.prog 334 #[.agg #[.int .i64 f.1,.int .i64 f.2]] w fun e w'=>e=.returned (.bool (!vz f))∧Below w.heap.size w w':=by
 go_enter Tryz.func334,Tryz.ntmps334;go_wp2_with fail;refine(iq2 f _).mono ?_;rintro e w1 ⟨rfl,hb⟩;go_wp2;go_ret;exact⟨rfl,az ((Below.refl _ _).alloc (Nat.le_refl _) _) hb⟩
theorem kz4 (n:Int) (w:World):Calls Tryz.prog 333 #[.int .i64 n] w fun e w'=>e=.returned (.bool (!isNum n))∧w=w':=by
 go_enter Tryz.func333,Tryz.ntmps333;go_wp2_with fail;refine(ox1 n _).mono ?_;rintro e w1 ⟨rfl,rfl⟩;go_wp2;go_ret;exact⟨rfl,rfl⟩
theorem tw1 {k:IntKind} {a b:Int} (h:a=b):Ending.returned (.int k a)=.returned (.int k b):=by rw[h]
theorem iw1 {a b:Bool} (h:a=b):Ending.returned (.bool a)=.returned (.bool b):=by rw[h]
def fidx {α:Type} (P:α→Bool) (l:List α):Int:=if l.any P=true then (l.findIdx P:Int) else -1
theorem cx1 {α:Type} {P:α→Bool} {l:List α} (h:l.any P=false):fidx P l=-1:=by unfold fidx;rw[h];rfl
theorem kw1 {α:Type} {P:α→Bool} {l:List α} {k:Nat} (h:k < l.length):(l.take (k+1)).any P=((l.take k).any P||P l[k]):=by
 rw[List.take_succ_eq_append_getElem h,List.any_append];simp
theorem fy1 {α:Type} {P:α→Bool} {l:List α} {k:Nat} (hl:k < l.length) (h0:(l.take k).any P=false) (h1:P l[k]=true):fidx P l=(k:Int):=by
 unfold fidx;rw[if_pos (List.any_eq_true.2 ⟨_,List.getElem_mem hl,h1⟩)]
 congr 1
 rw[List.findIdx_eq hl];refine⟨h1,fun j hj=>?_⟩;have:=List.any_eq_false.1 h0 l[j] (by
  rw[List.mem_take_iff_getElem];exact⟨j,by omega,rfl⟩)
 simpa using this
theorem rj1 {α:Type} (P:α→Bool) (l:List α):decide (0≤fidx P l)=l.any P:=by
 unfold fidx;split
 ·rename_i h;rw[h];simp
 ·rename_i h;simp at h;simp;exact h
theorem cx4 {α:Type} {P:α→Bool} {l:List α} (h:l.any P=true):∃i:Nat,fidx P l=(i:Int)∧∃hi:i < l.length,P l[i]=true∧l.findIdx P=i:=by
 unfold fidx;rw[if_pos h];have hl:l.findIdx P < l.length:=List.findIdx_lt_length.2 (by simpa using h);exact⟨_,rfl,hl,List.findIdx_getElem (w:=hl),rfl⟩
theorem iw3 (K:Nat) (hF:∀args w,(callFunc K args).run Tryz.prog w=.ok (.enter K args) w) (p:Addr) (P:Int×Int→Bool) (A:Option Addr) (n c:Nat) (fs:List (Int×Int)) (w:World) (hn:n≤1000000) (hr:Row w.heap.size w A n 2 (dw fs))
  (hK:∀f w1,Below w.heap.size w w1→Calls Tryz.prog K #[.agg #[.int .i64 f.1,.int .i64 f.2],.pointer (some p)] w1 fun e w'=>e=.returned (.bool (P f))∧Below w1.heap.size w1 w'):
  Calls Tryz.prog 292 #[.slice A n c,.func (.func K) #[] #[.pointer (some p)]] w fun e w'=>e=.returned (.int .i64 (fidx P fs))∧Below w.heap.size w w':=by
 have hnn:=hr.flen;have HK:=Lib.hid hK;have HF:=Lib.hid hF;clear hK hF;go_enter Tryz.func292,Tryz.ntmps292;go_wp2
 go_loopw [8] (fun i wr=>∃k:Nat,k≤n∧i=.int .i64 (k:Int)∧Hid ((fs.take k).any P=false)∧Below w.heap.size w wr) (fun i _=>n - (intOf i).toNat)
 case atStart=>exact⟨0,Nat.zero_le _,rfl,Lib.hid rfl,Below.refl _ _⟩
 case round=>
  obtain⟨k,hk,rfl,hb,hbl⟩:=hrel
  by_cases hlt:k < n
  ·obtain⟨a,hl,rfl,hbk,c0,c1⟩:=(hr.below hbl).file hlt
   have ht:=kw1 (P:=P) hl;have hs:=fun h1=>fy1 (P:=P) hl hb.out h1;generalize fs[k]=f at *;have HT:=Lib.hid ht;have HS:=Lib.hid hs;clear ht hs hl;have hc:=HK.out f wr hbl
   cases hp:P f with
   |true=>
    rw[hp]at hc;have HP:=Lib.hid hp;clear hp;go_wp2_with fail;rw[HF.out,Oper.upon_enter];refine hc.mono ?_;rintro e w1 ⟨rfl,hb1⟩;go_wp2;go_ret;exact⟨tw1 (HS.out HP.out).symm,az hbl hb1⟩
   |false=>
    rw[hp]at hc;have HP:=Lib.hid hp;clear hp;go_wp2_with fail;rw[HF.out,Oper.upon_enter];refine hc.mono ?_;rintro e w1 ⟨rfl,hb1⟩;go_wp2;go_roundw
    case rel=>exact⟨k+1,by omega,by go_num,Lib.hid (by rw[HT.out,hb.out,HP.out];rfl),az hbl hb1⟩
    case measure=>simp[intOf];omega
  ·have hall:fidx P fs=-1:=cx1 (by
    have hb':=hb.out
    rwa [List.take_of_length_le (by omega)]at hb')
   have HA:=Lib.hid hall;clear hall;go_wp2;go_ret;exact⟨tw1 HA.out.symm,hbl⟩
end
section
open Go Go.RowKit
theorem iy3 (K:Nat) (hF:∀args w,(callFunc K args).run Tryz.prog w=.ok (.enter K args) w) (cap:Array Value) (P:It→Bool) (A:Option Addr) (n c:Nat) (l:List It) (w:World) (hn:n≤1000000) (hr:Row w.heap.size w A n 5 (itc l))
  (hK:∀x w1,Below w.heap.size w w1→Calls Tryz.prog K (#[x.val] ++cap) w1 fun e w'=>e=.returned (.bool (P x))∧Below w1.heap.size w1 w'):
  Calls Tryz.prog 203 #[.slice A n c,.func (.func K) #[] cap] w fun e w'=>e=.returned (.int .i64 (fidx P l))∧Below w.heap.size w w':=by
 have hnn:=hr.bj1;have HK:=Lib.hid hK;have HF:=Lib.hid hF;clear hK hF;go_enter Tryz.func203,Tryz.ntmps203;go_wp2
 go_loopw [8] (fun i wr=>∃k:Nat,k≤n∧i=.int .i64 (k:Int)∧Hid ((l.take k).any P=false)∧Below w.heap.size w wr) (fun i _=>n - (intOf i).toNat)
 case atStart=>exact⟨0,Nat.zero_le _,rfl,Lib.hid rfl,Below.refl _ _⟩
 case round=>
  obtain⟨k,hk,rfl,hb,hbl⟩:=hrel
  by_cases hlt:k < n
  ·obtain⟨a,hl,rfl,hbk,c0,c1,c2,c3,c4⟩:=(hr.below hbl).it hlt
   have ht:=kw1 (P:=P) hl;have hs:=fun h1=>fy1 (P:=P) hl hb.out h1;generalize l[k]=f at *;have HT:=Lib.hid ht;have HS:=Lib.hid hs;clear ht hs hl;have hc:=HK.out f wr hbl;unfold It.val at hc;generalize hp:P f=p at hc;have HP:=Lib.hid hp;clear hp;go_wp2_with fail;rw[HF.out,Oper.upon_enter];refine hc.mono ?_;rintro e w1 ⟨rfl,hb1⟩
   cases p with
   |true=>
    go_wp2;go_ret;exact⟨tw1 (HS.out HP.out).symm,az hbl hb1⟩
   |false=>
    go_wp2;go_roundw
    case rel=>exact⟨k+1,by omega,by go_num,Lib.hid (by rw[HT.out,hb.out,HP.out];rfl),az hbl hb1⟩
    case measure=>simp[intOf];omega
  ·have hall:fidx P l=-1:=cx1 (by
    have hb':=hb.out
    rwa [List.take_of_length_le (by omega)]at hb')
   have HA:=Lib.hid hall;clear hall;go_wp2;go_ret;exact⟨tw1 HA.out.symm,hbl⟩
theorem mv2 (K:Nat) (hF:∀args w,(callFunc K args).run Tryz.prog w=.ok (.enter K args) w) (cap:Array Value) (P:It→Bool) (A:Option Addr) (n c:Nat) (l:List It) (w:World) (hn:n≤1000000) (hr:Row w.heap.size w A n 5 (itc l))
  (hK:∀x w1,Below w.heap.size w w1→Calls Tryz.prog K (#[x.val] ++cap) w1 fun e w'=>e=.returned (.bool (P x))∧Below w1.heap.size w1 w'):
  Calls Tryz.prog 118 #[.slice A n c,.func (.func K) #[] cap] w fun e w'=>e=.returned (.bool (l.any P))∧Below w.heap.size w w':=by
 have hge:=rj1 P l;have hq:=iy3 K hF cap P A n c l w hn hr hK;clear hK;generalize fidx P l=i at *;have HGE:=Lib.hid hge;clear hge;go_enter Tryz.func118,Tryz.ntmps118;go_wp2_with fail;refine hq.mono ?_;rintro e w1 ⟨rfl,hb⟩;clear hq;go_wp2;go_ret;exact⟨iw1 HGE.out,hb⟩
end
section
open Go Go.RowKit
theorem vw3 (l:List It):l.any (fun x=>!x.ok)= !l.all It.ok:=by
 induction l with
 |nil=>rfl
 |cons a l ih=>simp[ih,Bool.not_and]
theorem kv4 (a:It) (w:World):Calls Tryz.prog 202 #[a.val] w fun e w'=>e=.returned (.bool (!a.ok))∧Below w.heap.size w w':=by
 have hok:=fun W=>wq1 a W;unfold It.val at hok ⊢;go_enter Tryz.func202,Tryz.ntmps202;go_wp2_with fail;refine(hok _).mono ?_;rintro e w1 ⟨rfl,hb⟩;go_wp2;go_ret;exact⟨rfl,az ((Below.refl _ _).alloc (Nat.le_refl _) _) hb⟩
theorem lv4 (a:It) (w:World):Calls Tryz.prog 168 #[a.val] w fun e w'=>e=.returned (.bool (!a.ok))∧Below w.heap.size w w':=by
 have hok:=fun W=>wq1 a W;unfold It.val at hok ⊢;go_enter Tryz.func168,Tryz.ntmps168;go_wp2_with fail;refine(hok _).mono ?_;rintro e w1 ⟨rfl,hb⟩;go_wp2;go_ret;exact⟨rfl,az ((Below.refl _ _).alloc (Nat.le_refl _) _) hb⟩
theorem oy1 (A:Option Addr) (n c:Nat) (l:List It) (w:World) (hn:n≤1000000) (hr:Row w.heap.size w A n 5 (itc l)):
  Calls Tryz.prog 116 #[.slice A n c] w fun e w'=>e=.returned (.bool (l.all It.ok))∧Below w.heap.size w w':=by
 have h:=mv2 202 (fun _ _=>rfl) #[] (fun x=>!x.ok) A n c l w hn hr (fun x w1 _=>kv4 x w1);rw[vw3]at h;go_enter Tryz.func116,Tryz.ntmps116;go_wp2_with fail;refine h.mono ?_;rintro e w1 ⟨rfl,hb⟩;clear h;go_wp2;go_ret;exact⟨iq (by simp),hb⟩
end
end Go.Proofs.YthjdpplgfdihoaaGreatDoor
