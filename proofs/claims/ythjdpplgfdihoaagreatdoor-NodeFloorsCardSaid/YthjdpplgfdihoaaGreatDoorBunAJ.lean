/- Texts MemA, ItemL, PlainOne, Unlist, ItemM in one. No conditions. -/
import Derived.Test.YthjdpplgfdihoaaGreatDoorBunAA
import Derived.Test.YthjdpplgfdihoaaGreatDoorBunAI
import Derived.Test.YthjdpplgfdihoaaGreatDoorBunAF
import Derived.Test.YthjdpplgfdihoaaGreatDoorBunAC
import Derived.Deep.RegionHeld3
import Derived.Test.YthjdpplgfdihoaaGreatDoorBunAE
import Derived.Test.YthjdpplgfdihoaaGreatDoorBunAG
import Derived.Test.YthjdpplgfdihoaaGreatDoorBunAD

set_option linter.unusedSimpArgs false
set_option linter.unusedVariables false
set_option maxRecDepth 100000
set_option maxHeartbeats 16000000
namespace Go.Proofs.YthjdpplgfdihoaaGreatDoor
section
open Go Go.RowKit Go.Lib
structure MmAt (w:World) (m L:Nat) (ns:List Nd):Prop where
 box:∃sz:Int,BoxO w 228 m [.pointer (some ⟨L,0,none⟩),.int .u32 0,.int .i32 0,.int .u32 0,.bool false,.int .i64 sz]
 sk:SkAt w L ns
 out:m∉skF L ns
variable {w w':World} {m L:Nat} {ns:List Nd}
theorem MmAt.chg {F:List Nat} (h:MmAt w m L ns) (c:Chg F w w') (hF:∀g∈m::skF L ns,g∉F):MmAt w' m L ns:=
 ⟨let ⟨sz,a⟩:=h.box;⟨sz,a.chg c (hF m List.mem_cons_self)⟩,h.sk.chg c (fun g hg=>hF g (List.mem_cons_of_mem _ hg)),h.out⟩
theorem MmAt.below (h:MmAt w m L ns) (c:Below w.heap.size w w'):MmAt w' m L ns:=h.chg (Chg.of_below c []) (fun _ _=>by simp)
theorem sq2 (w:World):Calls Tryz.prog 80 #[] w fun e w'=>∃m L ns,e=.returned (.pointer (some ⟨m,0,none⟩))∧MmAt w' m L ns∧its ns=[]∧Below w.heap.size w w'∧∀g∈m::skF L ns,w.heap.size≤g:=by
 have HN:=Lib.hid (pj4 w);go_enter Tryz.func80,Tryz.ntmps80;go_wp2_with fail;refine HN.out.mono ?_;rintro e w1 ⟨L,ns,rfl,h1,h2,h3,h4⟩;have HF:=Lib.hid (And.intro h1 (And.intro h2 (And.intro h3 h4)));clear h1 h2 h3 h4 HN;go_wp2;go_ret;obtain⟨h1,h2,h3,h4⟩:=HF.out;have hs:=h3.size;refine⟨w1.heap.size,L,ns,rfl,⟨⟨0,BoxO.new _ _ _⟩,h1.below ((Below.refl _ _).alloc (Nat.le_refl _) _),fun hm=>?_⟩,h2,h3.alloc hs _,fun g hg=>?_⟩
 ·have:=h1.lt _ hm
  omega
 ·rcases List.mem_cons.1 hg with rfl|hg
  ·exact hs
  ·exact h4 g hg
theorem height_any (x:It) (hk:x.ok=true) (w:World):Calls Tryz.prog 171 #[x.val] w fun e w'=>∃k:Nat,1≤k∧k≤6∧e=.returned (.int .i64 (k:Int))∧Below w.heap.size w w':=by
 have hky:=fun W=>sk4 x hk W;have hW:=(Below.refl w.heap.size w).alloc (Nat.le_refl _) (.cells #[.int .i64 x.s,.int .i64 x.k,.int .u64 (x.t:Int),.int .u64 (x.v:Int),.int .i64 x.x] 36);unfold It.val at *;have HKY:=Lib.hid hky;have HW:=Lib.hid hW;clear hky hW;go_enter Tryz.func171,Tryz.ntmps171;go_wp2_with fail;refine(HKY.out _).mono ?_;rintro e w1 ⟨A',c',rfl,hr,h1,h2,h3⟩;have hb:=az HW.out h3;have HH:=Lib.hid (oz4 A' 10 c' x.key w1 (by omega) hr);clear hr h3 HW HKY;go_wp2_with fail;refine HH.out.mono ?_;rintro e w2 ⟨rfl,rfl⟩;generalize (Fnv.hash x.key).toNat=hv;clear HH;go_wp2_with fail
 go_loopw [3,4] (fun n h wr=>∃k hv:Nat,1≤k∧k≤6∧n=.int .i64 (k:Int)∧h=.int .u64 (hv:Int)∧wr=w1) (fun n _ _=>6 - (intOf n).toNat)
 case atStart=>exact⟨1,hv,by omega,by omega,rfl,rfl,rfl⟩
 case round=>
  obtain⟨k,hv,hk1,hk6,rfl,rfl,rfl⟩:=hrel;have hwk:IntKind.i64.wrap ((k:Int)+1)=((k+1:Nat):Int):=by rw[IntWalk.i64_in _ (by omega)];omega
  obtain⟨b,hbb⟩:∃b:Bool,(bits .and .u64 (hv:Int) 3==0)=b:=⟨_,rfl⟩
  cases b with
  |false=>
   go_wp2;go_ret;exact⟨k,hk1,hk6,rfl,hb⟩
  |true=>
   by_cases h6:k < 6
   ·have h6i:(k:Int) < 6:=by omega
    go_wp2;go_roundw
    case rel=>exact⟨k+1,hv / 4,by omega,by omega,rfl,by go_num,trivial⟩
    case measure=>simp[intOf];omega
   ·have h6i:((k:Int) < 6)=False:=eq_false (by omega)
    go_wp2;go_ret;exact⟨k,hk1,hk6,rfl,hb⟩
def rj4 (w:World) (m L:Nat) (ns:List Nd) (l:List It) (e:Ending) (w':World):Prop:=∃ns',e=.returned (.int .i64 0)∧MmAt w' m L ns'∧its ns'=l.foldl wput (its ns)∧Chg (m::skF L ns) w w'∧∀g∈skF L ns',g∈skF L ns∨w.heap.size≤g
theorem bx4 (l:List It) (x:It):(wput l x).length≤l.length+1:=by
 unfold wput;split
 ·omega
 ·unfold put
  have h1:=List.length_filter_le (fun y=>It.less y x) l;rw[List.length_append,List.length_cons];have:∀l:List It,(l.filter fun y=>It.less y x).length+(l.filter fun y=>It.less x y).length≤l.length:=by
   intro l
   induction l with
   |nil=>simp
   |cons a r ih=>
    simp only[List.filter_cons]
    cases h2:It.less a x<;>cases h3:It.less x a
    ·simp;omega
    ·simp;omega
    ·simp;omega
    ·rw[It.xy]at h2 h3;omega
  have:=this l;omega
theorem jx1:∀(b a:List It),(b.foldl wput a).length≤a.length+b.length
 |[],a=>by simp
 |x::b,a=>by
  have h1:=jx1 b (wput a x);have h2:=bx4 a x;simp only[List.foldl_cons,List.length_cons];omega
theorem uw4 {w1 wr w7 w8:World} {ns' ns2:List Nd} {R:List It} {x:It} (K:MmAt wr m L ns'∧its ns'=R∧Chg (m::skF L ns) w1 wr∧∀g∈skF L ns',g∈skF L ns∨w1.heap.size≤g)
  (b7:Below wr.heap.size wr w7) (q1:SkAt w8 L ns2) (q2:its ns2=wput (its ns') x) (q3:Chg (skF L ns') w7 w8) (q4:∀g∈skF L ns2,g∈skF L ns'∨w7.heap.size≤g):
  MmAt w8 m L ns2∧its ns2=wput R x∧Chg (m::skF L ns) w1 w8∧∀g∈skF L ns2,g∈skF L ns∨w1.heap.size≤g:=by
 obtain⟨k1,k2,k3,k4⟩:=K;obtain⟨sz,hb⟩:=(k1.below b7).box;have hs1:=k3.size;have hs2:=b7.size;have hml:m < wr.heap.size:=by
  obtain⟨sz,hb⟩:=k1.box;exact hb.lt
 refine⟨⟨⟨sz,hb.chg q3 k1.out⟩,q1,fun hm=>?_⟩,by rw[q2,k2],(k3.trans (Chg.of_below b7 (m::skF L ns)) (fun g hg=>.inl hg)).trans q3 (fun g hg=>?_),fun g hg=>?_⟩
 ·rcases q4 m hm with h|h
  ·exact k1.out h
  ·omega
 ·rcases k4 g hg with h|h
  ·exact .inl (List.mem_cons_of_mem _ h)
  ·exact .inr h
 ·rcases q4 g hg with h|h
  ·exact k4 g h
  ·exact .inr (by omega)
theorem aq2 (h:MmAt w m L ns) (A:Option Addr) (n c:Nat) (l:List It) (hn:n≤400000) (hnl:(its ns).length≤400000) (hr:Row w.heap.size w A n 5 (itc l)) (hA:∀a,A=some a→a.block≠m∧a.block∉skF L ns) (hk:l.all It.ok=true):
  Calls Tryz.prog 87 #[.pointer (some ⟨m,0,none⟩),.slice A n c] w (rj4 w m L ns l):=by
 have hnn:=hr.bj1;obtain⟨sz,hb⟩:=h.box;have c4:=hb.cell 4;simp only[gE0,gE1]at c4;have hal:=mv2 168 (fun _ _=>rfl) #[] (fun x=>!x.ok) A n c l w (by omega) hr (fun x w1 _=>lv4 x w1);rw[vw3,hk]at hal;have HAL:=Lib.hid hal;have HKK:=Lib.hid hk;have H:=Lib.hid h;clear hal hk hb h;go_enter Tryz.func87,Tryz.ntmps87;go_wp2_with fail;refine HAL.out.mono ?_;rintro e w1 ⟨rfl,hb1⟩;have h1:=H.out.below hb1;have hr1:=(hr.below hb1).up hb1.size;have HB1:=Lib.hid hb1;have H1:=Lib.hid h1;clear h1 hb1 hr HAL;go_wp2_with fail
 go_loopw [17] (fun s wr=>∃(k:Nat) (ns':List Nd),k≤n∧s=.int .i64 (k:Int)∧Hid (MmAt wr m L ns'∧its ns'=(l.take k).foldl wput (its ns)∧Chg (m::skF L ns) w1 wr∧∀g∈skF L ns',g∈skF L ns∨w1.heap.size≤g)) (fun s _=>n - (intOf s).toNat)
 case atStart=>exact⟨0,ns,Nat.zero_le _,rfl,Lib.hid ⟨H1.out,rfl,Chg.refl _ _,fun g hg=>.inl hg⟩⟩
 case round=>
  obtain⟨k,ns',hkn,rfl,HK⟩:=hrel
  by_cases hlt:k < n
  ·have hki:(k:Int) < (n:Int):=by omega
   have hwk:IntKind.i64.wrap (k:Int)=(k:Int):=IntWalk.i64_in _ (by omega);have hrk:Row w1.heap.size wr A n 5 (itc l):=HK.out.2.2.1.row hr1 (Nat.le_refl _) (fun a ha hm=>by
    rcases List.mem_cons.1 hm with h2|h2
    ·exact(hA a ha).1 h2
    ·exact(hA a ha).2 h2)
   obtain⟨p,hl,rfl,hbk,c0,c1,c2',c3,c4⟩:=hrk.it hlt;have hxk:l[k].ok=true:=by have:=HKK.out;rw[List.all_eq_true]at this;exact this _ (List.getElem_mem hl)
   have hft:(l.take (k+1)).foldl wput (its ns)=wput ((l.take k).foldl wput (its ns)) l[k]:=by
    rw[List.take_succ_eq_append_getElem hl,List.foldl_append];rfl
   generalize l[k]=x at *;have hnb:ns'.length≤1000000:=by
    have h2:=uj3 HK.out.1.sk;have h3:=jx1 (l.take k) (its ns);rw[←HK.out.2.1,List.length_take]at h3;omega
   have hUb:=(Below.refl wr.heap.size wr).alloc (Nat.le_refl _) (.cells #[.int .i64 x.s,.int .i64 x.k,.int .u64 (x.t:Int),.int .u64 (x.v:Int),.int .i64 x.x] 36);have hbx:BoxO (wr.alloc (.cells #[.int .i64 x.s,.int .i64 x.k,.int .u64 (x.t:Int),.int .u64 (x.v:Int),.int .i64 x.x] 36)) 36 wr.heap.size x.cells:=BoxO.new wr #[.int .i64 x.s,.int .i64 x.k,.int .u64 (x.t:Int),.int .u64 (x.v:Int),.int .i64 x.x] 36;have hmm:=HK.out.1.below hUb;have hhe:=fun W=>height_any x hxk W;have hpu:=fun W (hW:Below wr.heap.size wr W) (h:Nat) h1 h6=>wz3 L h ns' x W (HK.out.1.sk.below hW) hxk h1 h6 hnb;obtain⟨sz',hmb⟩:=hmm.box;have hkc:∀w',Below wr.heap.size wr w'→w'.cell? ⟨m,0,none⟩=some (.pointer (some ⟨L,0,none⟩)):=fun w' hw=>by
    obtain⟨sz2,hmb2⟩:=(HK.out.1.below hw).box;exact hmb2.cell 0
   have hkx:∀w',Below (wr.heap.size+1) (wr.alloc (.cells #[.int .i64 x.s,.int .i64 x.k,.int .u64 (x.t:Int),.int .u64 (x.v:Int),.int .i64 x.x] 36)) w'→w'.cell? ⟨wr.heap.size,0,none⟩=some (.int .i64 x.s)∧w'.cell? ⟨wr.heap.size,1,none⟩=some (.int .i64 x.k)∧w'.cell? ⟨wr.heap.size,2,none⟩=some (.int .u64 (x.t:Int))∧w'.cell? ⟨wr.heap.size,3,none⟩=some (.int .u64 (x.v:Int))∧w'.cell? ⟨wr.heap.size,4,none⟩=some (.int .i64 x.x):=fun w' hw=>by
    have e:=hbx.below (w':=w') (by simpa using hw);exact⟨e.cell 0,e.cell 1,e.cell 2,e.cell 3,e.cell 4⟩
   unfold It.val at hhe hpu;have HHE:=Lib.hid hhe;have HPU:=Lib.hid hpu;have HUB:=Lib.hid hUb;have HBX:=Lib.hid hbx;have HFT:=Lib.hid hft;have KC:=Lib.hid hkc;have m0:=hmb.cell 0;have b0:=hbx.cell 0;have b1:=hbx.cell 1;have b2:=hbx.cell 2;have b3:=hbx.cell 3;have b4:=hbx.cell 4;simp only[It.cells,gE0,gE1]at b0 b1 b2 b3 b4 m0;obtain⟨U,hU⟩:∃U,U=wr.alloc (.cells #[.int .i64 x.s,.int .i64 x.k,.int .u64 (x.t:Int),.int .u64 (x.v:Int),.int .i64 x.x] 36):=⟨_,rfl⟩;have hkz:∀w',Below U.heap.size U w'→w'.cell? ⟨m,0,none⟩=some (.pointer (some ⟨L,0,none⟩))∧(w'.cell? ⟨wr.heap.size,0,none⟩=some (.int .i64 x.s)∧w'.cell? ⟨wr.heap.size,1,none⟩=some (.int .i64 x.k)∧w'.cell? ⟨wr.heap.size,2,none⟩=some (.int .u64 (x.t:Int))∧w'.cell? ⟨wr.heap.size,3,none⟩=some (.int .u64 (x.v:Int))∧w'.cell? ⟨wr.heap.size,4,none⟩=some (.int .i64 x.x)):=fun w' hw=>by
    rw[hU]at hw;have e:=hbx.below hw;have e2:=(hmb.below hw).cell 0;exact⟨e2,e.cell 0,e.cell 1,e.cell 2,e.cell 3,e.cell 4⟩
   rw[←hU]at m0 b0 b1 b2 b3 b4 HBX HUB;have KZ:=Lib.hid hkz;have HU:=hU.symm;clear hhe hpu hUb hbx hft hkc hkx hmb hmm hrk hU hkz HBX KC;go_wp2_with fail;clear HU c0 c1 c2' c3 c4
   go_region_with (first
    |(go_at_call 171;refine(HHE.out _).mono ?_;rintro e w7 ⟨hh,hh1,hh6,rfl,hb7'⟩;have hb7:=(ak (Below.refl U.heap.size U)).trans hb7';obtain⟨m1,d0,d1,d2,d3,d4⟩:=KZ.out w7 hb7)
    |(go_at_call 170;refine(HPU.out _ (az HUB.out hb7) hh hh1 hh6).mono ?_;rintro e w8 ⟨bb,ns2,rfl,q1,q2,q3,q4⟩))
   all_goals
    have hst:=uw4 HK.out (az HUB.out hb7) q1 q2 q3 q4;rw[←HFT.out]at hst;have HST:=Lib.hid hst;clear hst q1 q2 q3 q4 hb7 hb7' m1 d0 d1 d2 d3 d4;go_wp2;go_roundw
    case rel=>exact⟨k+1,ns2,by omega,by go_num,HST⟩
    case measure=>simp[intOf];omega
  ·have hki:((k:Int) < (n:Int))=False:=eq_false (by omega)
   have hall:l.take k=l:=List.take_of_length_le (by omega);have hkk:=HK.out;rw[hall]at hkk;obtain⟨g1,g2,g3,g4⟩:=hkk;obtain⟨sz',hmb⟩:=g1.box;have m0:=hmb.cell 0;have m5:=hmb.cell 5;have f5:=hmb.free 5;simp only[gE0,gE1]at m0 m5;obtain⟨N,hN⟩:∃N,N=(its ns').length:=⟨_,rfl⟩;have hNb:N≤800000:=by
    have h3:=jx1 l (its ns);rw[←g2]at h3;omega
   have hw28:IntKind.i64.wrap ((N:Int)*28)=(N:Int)*28:=IntWalk.i64_in _ (by omega);have hle:=jv4 L ns' wr.drew (g1.sk.chg (F:=[]) (Chg.refl _ wr).drew (fun _ _=>by simp));rw[←hN]at hle;have hst:=mw1 m 5 sz' ((N:Int)*28) wr.drew m5 f5;have hc5:=pz wr.drew ⟨m,5,none⟩ (.int .i64 ((N:Int)*28));have hm5:=hmb.drew.store 5 (.int .i64 ((N:Int)*28));simp only[List.set_cons_zero,List.set_cons_succ]at hm5;have hfin:rj4 w m L ns l (.returned (.int .i64 0)) (wr.drew.setCell ⟨m,5,none⟩ (.int .i64 ((N:Int)*28))):=by
    refine⟨ns',rfl,⟨⟨_,hm5⟩,(g1.sk.chg (F:=[]) (Chg.refl _ wr).drew (fun _ _=>by simp)).chg hc5 (fun g hg e=>g1.out ((List.mem_singleton.1 e:g=m)▸hg)),g1.out⟩,g2,?_,fun g hg=>?_⟩
    ·exact((Chg.of_below HB1.out (m::skF L ns)).trans (g3.drew) (fun g hg=>.inl hg)).trans hc5 (fun g hg=>.inl (by rw[(List.mem_singleton.1 hg:g=m)];exact List.mem_cons_self))
    ·rcases g4 g hg with h2|h2
     ·exact .inl h2
     ·exact .inr (Nat.le_trans HB1.out.size h2)
   have HLE:=Lib.hid hle;have HST:=Lib.hid hst;have HFIN:=Lib.hid hfin;clear hle hst hc5 hm5 hfin g1 g2 g3 g4 hmb HK hN hall;go_wp2_with fail
   go_region_with (first
    |(go_at_call 172;refine HLE.out.mono ?_;rintro e w7 ⟨rfl,rfl⟩)
    |(go_at_call 159;refine HST.out.mono ?_;rintro e w8 ⟨rfl,rfl⟩))
   all_goals
    go_wp2;go_ret;exact HFIN.out
end
section
open Go Go.RowKit Go.Lib
def It.ns (x:It):List Nat:=[x.t,x.v,sgn x.x]
theorem It.zw4 (x:It):x.one=[UInt8.ofNat x.s.toNat,UInt8.ofNat x.k.toNat] ++x.ns.flatMap Pn.put:=by simp[It.one,It.ns]
theorem by2 {w:World} {base size n:Nat} {e:TypeId} {v:Value} {xs:List Value} (h:w.ownsRow base e size v n xs) {g:Nat} (hg:w.heap.size≤g):some g≠v.ownBlock:=by
 rcases h.2 with ⟨rfl,_⟩|⟨g',cap,cur,rfl,_,hh,_⟩
 ·intro e;cases e
 ·have:g' < w.heap.size:=(Array.getElem?_eq_some_iff.1 hh).1
  intro e;have e:g=g':=Option.some.inj e;omega
theorem BoxO.qj4 {w w':World} {e:TypeId} {g:Nat} {xs:List Value} {r:Option Nat} (h:BoxO w e g xs) (hg:w.grownBy w' r) (hne:some g≠r):BoxO w' e g xs:=(hg.block g h.lt hne).trans h
theorem mw4 {l:List It} {k:Nat} (h:k < l.length):(l.take (k+1)).flatMap It.one=(l.take k).flatMap It.one++l[k].one:=by
 rw[List.take_succ_eq_append_getElem h,List.flatMap_append];simp
theorem pw3 (A:Option Addr) (N c:Nat) (b:List UInt8) (L:Option Addr) (m d:Nat) (l:List It) (w:World) (hN:N≤1000000) (hm:m≤2000) (hr:Row w.heap.size w A N 1 (bts b)) (hq:Row w.heap.size w L m 5 (itc l)) (hk:∀x∈l,x.ok=true∧x.fit):
  Calls Tryz.prog 258 #[.slice A N c,.slice L m d] w fun e w'=>∃A' M c',e=.returned (.tuple #[.slice A' M c',.int .i64 0])∧
   w'.ownsRow w.heap.size 5 1 (.slice A' M c') M (bts (b++It.bytes l))∧M≤c'∧c'≤maxLen∧Below w.heap.size w w':=by
 obtain⟨i0,hi0,hz0,hz1,hz2⟩:=info_parts gx1;have hln:=hr.yz;have hmn:=hq.bj1;have hcv:∀w,(convert 3 22 (.int .i64 (m:Int))).run Tryz.prog w=.ok (.int .u64 (m:Int)) w:=by
  intro w;have:(m:Int) % 18446744073709551616=(m:Int):=by omega
  simp[go_sem,convert,IntKind.wrap_u64,this]
 have hal:=oy1 L m d l w (by omega) hq;rw[show l.all It.ok=true from List.all_eq_true.2 fun x hx=>(hk x hx).1]at hal;have hm2:((2000:Int) < (m:Int))=False:=eq_false (by omega);have HAL:=Lib.hid hal;have HK:=Lib.hid hk;clear hal hk;go_enter Tryz.func258,Tryz.ntmps258;go_wp2_with fail;refine HAL.out.mono ?_;rintro e w0 ⟨rfl,hb0⟩;have hp:=put_any A N c b m (by omega) w0 (by omega) ((hr.below hb0).up hb0.size);have hq0:=(hq.below hb0).up hb0.size;have HP:=Lib.hid hp;clear hp HAL;go_wp2_with fail;refine HP.out.mono ?_;rintro e w1 ⟨A1,c1,rfl,ho1,hc1,hm1,hb1⟩;obtain⟨M1,hM1⟩:∃M1,M1=N+(Pn.put m).length:=⟨_,rfl⟩;have hM1b:M1≤N+10:=by have:=(Pn.jv m).2;omega
 rw[←hM1]at ho1 hc1 ⊢;have hq1:=(hq0.below hb1).up hb1.size;have hb01:=az hb0 hb1;have HO1:=Lib.hid ho1;have HB01:=Lib.hid hb01;have HS0:=Lib.hid hb0.size;clear ho1 hb01 hb1 hb0 hr hq hq0 HP hM1;go_wp2
 go_loopw [7,25] (fun o i wr=>∃(k q:Nat) (A2:Option Addr) (c2:Nat),k≤m∧o=.slice A2 q c2∧i=.int .i64 (k:Int)∧Hid (q≤32 *k∧wr.ownsRow w1.heap.size 5 1 (.slice A2 q c2) q (bts ((l.take k).flatMap It.one)))∧Below w1.heap.size w1 wr) (fun _ i _=>m - (intOf i).toNat)
 case atStart=>exact⟨0,0,none,0,Nat.zero_le _,rfl,rfl,Lib.hid ⟨by omega,World.ownsRow_nil _ _ _ _⟩,Below.refl _ _⟩
 case round=>
  obtain⟨k,q,A2,c2,hkm,rfl,rfl,HQ,hbl⟩:=hrel
  by_cases hlt:k < m
  ·obtain⟨p,hl,rfl,hbk,d0,d1,d2,d3,d4⟩:=(hq1.below hbl).it hlt
   have hki:(k:Int) < (m:Int):=by omega
   have hwk:IntKind.i64.wrap (k:Int)=(k:Int):=IntWalk.i64_in _ (by omega);obtain⟨hxk,hxf⟩:=HK.out _ (List.getElem_mem hl);have hot:=mw4 hl;have hq32:=HQ.out.1;generalize l[k]=x at *;rw[It.iv3]at hxk;have e1:=gk3 (x:=x.s) (by omega) (by omega);have e2:=gk3 (x:=x.k) (by omega) (by omega);rw[It.zw4]at hot;generalize UInt8.ofNat x.s.toNat=u1 at *;generalize UInt8.ofNat x.k.toNat=u2 at *;have hU:=(Below.refl wr.heap.size wr).alloc (Nat.le_refl _) (.cells #[.int .i64 x.s,.int .i64 x.k,.int .u64 (x.t:Int),.int .u64 (x.v:Int),.int .i64 x.x] 36);have hbx:BoxO (wr.alloc (.cells #[.int .i64 x.s,.int .i64 x.k,.int .u64 (x.t:Int),.int .u64 (x.v:Int),.int .i64 x.x] 36)) 36 wr.heap.size x.cells:=BoxO.new wr #[.int .i64 x.s,.int .i64 x.k,.int .u64 (x.t:Int),.int .u64 (x.v:Int),.int .i64 x.x] 36;obtain⟨U,hUe⟩:∃U,U=wr.alloc (.cells #[.int .i64 x.s,.int .i64 x.k,.int .u64 (x.t:Int),.int .u64 (x.v:Int),.int .i64 x.x] 36):=⟨_,rfl⟩;rw[←hUe]at hU hbx;have hrow:Row (U.alloc (.cells #[.int .u8 (u1.toNat:Int),.int .u8 (u2.toNat:Int)] 5)).heap.size (U.alloc (.cells #[.int .u8 (u1.toNat:Int),.int .u8 (u2.toNat:Int)] 5)) (some ⟨U.heap.size,0,none⟩) 2 1 (bts [u1,u2]):=by
    have:=Row.new U #[.int .u8 (u1.toNat:Int),.int .u8 (u2.toNat:Int)] 5 (n:=2) (size:=1) rfl;simpa [bts] using this
   have b0:=hbx.cell 0;have b1:=hbx.cell 1;simp only[It.cells,gE0,gE1]at b0 b1;have hbU:=az hbl hU;have hoU:=own_below HQ.out.2 hU;have hbV:=hbU.alloc hbU.size (.cells #[.int .u8 (u1.toNat:Int),.int .u8 (u2.toNat:Int)] 5);have hoV:=hoU.alloc (.cells #[.int .u8 (u1.toNat:Int),.int .u8 (u2.toNat:Int)] 5);have hbxV:=hbx.alloc (.cells #[.int .u8 (u1.toNat:Int),.int .u8 (u2.toNat:Int)] 5);have HROW:=Lib.hid hrow;have HBV:=Lib.hid hbV;have HOV:=Lib.hid hoV;have HBXV:=Lib.hid hbxV;have HOT:=Lib.hid hot;have HXK:=Lib.hid hxk;have HXF:=Lib.hid hxf;have hUs:=hUe.symm;have hsz:wr.heap.size+1=U.heap.size:=by rw[hUe];simp
   clear hrow hbV hoV hbxV hot hxk hxf hU hbx hbU hoU hUe;go_wp2_with (at_builtin;refine jq ?_);refine gy (lq rfl (.tmp 29) (.tmp 36) _ rfl w1.heap.size 5 i0 _ 1 1 Tryz.underlying56 hi0 hz0 hz1 hz2 rfl (by omega) w1 HBV.out HBV.out.size _ q _ rfl HOV.out _ _ 2 2 (bts [u1,u2]) rfl HROW.out (ak1 _) (q+2) _ rfl rfl (by unfold maxLen;omega) (by omega) ?_);intro A3 c3 w3 hown3 hb3 hg3 hc3 hm3;have hbx3:=HBXV.out.qj4 hg3 (by2 HQ.out.2 (Nat.le_refl _));have hkz:∀w',Below w3.heap.size w3 w'→w'.cell? ⟨wr.heap.size,2,none⟩=some (.int .u64 (x.t:Int))∧w'.cell? ⟨wr.heap.size,3,none⟩=some (.int .u64 (x.v:Int))∧w'.cell? ⟨wr.heap.size,4,none⟩=some (.int .i64 x.x):=fun w' h=>by
    have e:=hbx3.below h;exact⟨e.cell 2,e.cell 3,e.cell 4⟩
   have KZ:=Lib.hid hkz;have d0:=hbx3.cell 2;have d1:=hbx3.cell 3;have d2:=hbx3.cell 4;simp only[It.cells,gE0,gE1]at d0 d1 d2;have hsg:=fun W=>gj4 x.x HXF.out.1 HXF.out.2 W;have HSG:=Lib.hid hsg;have HO3:=Lib.hid hown3;have HB3:=Lib.hid hb3;have hns:x.ns=[x.t,x.v,sgn x.x]:=rfl;have hn64:∀n∈x.ns,n < 18446744073709551616:=by
    have h1:=HXK.out;have h2:=rq4 HXF.out.1 HXF.out.2;rw[hns];intro n hn;simp only[List.mem_cons,List.not_mem_nil,or_false]at hn
    rcases hn with rfl|rfl|rfl<;>omega
   obtain⟨sg,hsgn⟩:∃sg,sg=sgn x.x:=⟨_,rfl⟩;rw[←hsgn]at hns;have HNS:=Lib.hid hns;have HN64:=Lib.hid hn64;have HSGN:=Lib.hid hsgn;clear hsg hown3 hb3 hbx3 hns hn64 hsgn hg3 HBV HOV HBXV HROW e1 e2 b0 b1 hUs;go_wp2_with fail;clear d0 d1 d2 hkz;refine wp_region_held_drew (S:=fun w'=>Below w3.heap.size w3 w') rfl (ak (Below.refl _ _)) (fun hSw=>?_);refine wpT (i:=0) (v:=?vsg0) ?hsg0 hSw ?ksg0
   case hsg0=>(intro w hSw;(obtain⟨d0,d1,d2⟩:=KZ.out w hSw);go_simp;try (with_reducible rfl))
   go_simp;refine wpT (i:=1) (v:=?vsg1) ?hsg1 hSw ?ksg1
   case hsg1=>(intro w hSw;(obtain⟨d0,d1,d2⟩:=KZ.out w hSw);go_simp;try (with_reducible rfl))
   go_simp;refine wpT (i:=2) (v:=?vsg2) ?hsg2 hSw ?ksg2
   case hsg2=>(intro w hSw;(obtain⟨d0,d1,d2⟩:=KZ.out w hSw);go_simp;try (with_reducible rfl))
   go_simp;refine wpT (i:=3) (v:=?vsg3) ?hsg3 hSw ?ksg3
   case hsg3=>(intro w hSw;(obtain⟨d0,d1,d2⟩:=KZ.out w hSw);go_simp;try (with_reducible rfl))
   go_simp;refine wpT (i:=4) (v:=?vsg4) ?hsg4 hSw ?ksg4
   case hsg4=>(intro w hSw;(obtain⟨d0,d1,d2⟩:=KZ.out w hSw);go_simp;try (with_reducible rfl))
   go_simp;refine wpT (i:=5) (v:=?vsg5) ?hsg5 hSw ?ksg5
   case hsg5=>(intro w hSw;(obtain⟨d0,d1,d2⟩:=KZ.out w hSw);go_simp;try (with_reducible rfl))
   go_simp;refine wpT (i:=9) (v:=?vsg9) ?hsg9 hSw ?ksg9
   case hsg9=>(intro w hSw;(obtain⟨d0,d1,d2⟩:=KZ.out w hSw);go_simp;try (with_reducible rfl))
   go_simp;refine wpAnyH_ready (rs:=[6]) (by kernel_rfl) (by simp) ?_;refine AllReadyH.cons rfl (fun K hK=>?_) AllReadyH.nil;go_simp
   with_reducible refine(HSG.out _).mono ?_
   rintro e w7 ⟨rfl,rfl⟩;go_simp;refine hK.out _ _ hSw (fun hSn=>?_);clear hK K hSw;have hSw:=hSn;clear hSn;go_simp;refine wpAnyH_ready (rs:=[7]) (by kernel_rfl) (by simp) ?_;refine AllReadyH.cons rfl (fun K hK=>?_) AllReadyH.nil
   skip
   go_simp;refine hK.out _ _ (hSw.alloc hSw.size _) (fun hSn=>?_);clear hK K hSw;have hSw:=hSn;clear hSn;go_simp;refine wpT (i:=8) (v:=?vsg8) ?hsg8 hSw ?ksg8
   case hsg8=>(intro w hSw;(obtain⟨d0,d1,d2⟩:=KZ.out w hSw);go_simp;try (with_reducible rfl))
   go_simp;refine wpAnyH_done (by kernel_rfl) ?_ _;have hsv:=hSw;clear hSw KZ HSG d0 d1 d2 d3 d4;have hog:some w3.heap.size≠(Value.slice A3 (q+2) c3).ownBlock:=by2 HO3.out (Nat.le_refl _);have hoW:=own_below HO3.out hsv;have hbxW:BoxO (w3.alloc (.cells #[.int .u64 (x.t:Int),.int .u64 (x.v:Int),.int .u64 (sgn x.x:Int)] 22)).drew 22 w3.heap.size (u64v x.ns):=by
    have:=(BoxO.new w3 #[.int .u64 (x.t:Int),.int .u64 (x.v:Int),.int .u64 (sgn x.x:Int)] 22).drew;rw[HNS.out,HSGN.out];exact this
   have hb13:=HB3.out.trans (hsv.mono HB3.out.size);obtain⟨g,hg⟩:∃g,g=w3.heap.size:=⟨_,rfl⟩;rw[←hg]at hog hbxW;obtain⟨W,hW⟩:∃W,W=(w3.alloc (.cells #[.int .u64 (x.t:Int),.int .u64 (x.v:Int),.int .u64 (sgn x.x:Int)] 22)).drew:=⟨_,rfl⟩;rw[←hW]at hoW hbxW hb13 hsv ⊢;have H0:=Lib.hid (And.intro hoW (And.intro hbxW hb13));have HOG:=Lib.hid hog;have hgs:=hg.symm;clear hoW hbxW hb13 hog hW HO3 HB3 hsv hg;rw[hgs];go_wp2_with fail
   go_loopw [7,47] (fun o i wq=>∃(j q2:Nat) (A4:Option Addr) (c4:Nat),j≤3∧o=.slice A4 q2 c4∧i=.int .i64 (j:Int)∧Hid (q2≤q+2+10 *j∧wq.ownsRow w1.heap.size 5 1 (.slice A4 q2 c4) q2 (bts ((l.take k).flatMap It.one++([u1,u2] ++(x.ns.take j).flatMap Pn.put)))∧some g≠(Value.slice A4 q2 c4).ownBlock∧BoxO wq 22 g (u64v x.ns))∧Below w1.heap.size w1 wq) (fun _ i _=>3 - (intOf i).toNat)
   case atStart=>exact⟨0,q+2,A3,c3,by omega,rfl,rfl,Lib.hid ⟨by omega,by have:=H0.out.1;simpa [bts] using this,HOG.out,H0.out.2.1⟩,H0.out.2.2⟩
   case round=>
    obtain⟨j,q2,A4,c4,hj3,rfl,rfl,HJ,hbq⟩:=hrel;have hxl:x.ns.length=3:=rfl
    by_cases hjl:j < 3
    ·have hji:(j:Int) < 3:=by omega
     have hwj:IntKind.i64.wrap (j:Int)=(j:Int):=IntWalk.i64_in _ (by omega);have hcg:=HJ.out.2.2.2.cell j;rw[ix3,List.getElem?_eq_getElem (by omega)]at hcg;have hn64:=HN64.out _ (List.getElem_mem (show j < x.ns.length by omega));have htk:x.ns.take (j+1)=x.ns.take j++[x.ns[j]]:=List.take_succ_eq_append_getElem (by omega);generalize x.ns[j]=n at *;simp only[Option.map_some]at hcg;have hpn:=fun W=>put_any none 0 0 [] n hn64 W (by omega) Row.nil_;have hpl:=Pn.jv n;simp only[Nat.zero_add,List.nil_append]at hpn;have HPN:=Lib.hid hpn;have HTK:=Lib.hid htk;clear hpn htk;go_wp2_with fail;refine(HPN.out _).mono ?_;rintro e w7 ⟨A5,c5,rfl,ho5,h51,h52,hb5⟩;have hr5:=Row.own ho5;have ho4:=own_below HJ.out.2.1 hb5;have hbx5:=HJ.out.2.2.2.below hb5;have hbq5:=hbq.trans (hb5.mono hbq.size);have hg7:=hbx5.lt;generalize hpln:(Pn.put n).length=pl at *;have hq2:=HJ.out.1;have HR5:=Lib.hid hr5;have HO4:=Lib.hid ho4;have HBX5:=Lib.hid hbx5;have HBQ5:=Lib.hid hbq5;clear ho5 hr5 ho4 hbx5 hbq5 HPN hb5;go_wp2_with (at_builtin;refine jq ?_);refine gy (xq rfl (.tmp 51) (.tmp 53) _ rfl w1.heap.size 5 i0 _ 1 1 Tryz.underlying56 hi0 hz0 hz1 hz2 rfl (by omega) w1 HBQ5.out HBQ5.out.size _ q2 _ rfl HO4.out _ _ pl c5 (by omega) (bts (Pn.put n)) rfl HR5.out (ak1 _) (q2+pl) (bts ((l.take k).flatMap It.one++([u1,u2] ++(x.ns.take (j+1)).flatMap Pn.put))) rfl (by rw[HTK.out];simp[bts]) (by unfold maxLen;omega) (by omega) ?_);intro A6 c6 w8 z1 z2 z3 z4 z5 z6;have hng:some g≠(Value.slice A6 (q2+pl) c6).ownBlock:=by
      rcases z6 with z6|z6
      ·rw[z6];exact HJ.out.2.2.1
      ·rw[z6]
       intro e;have e:=Option.some.inj e;omega
     have HF:=Lib.hid (And.intro (show q2+pl≤q+2+10 *(j+1) by omega) (And.intro z1 (And.intro hng (HBX5.out.qj4 z3 HJ.out.2.2.1))));clear z1 z3 z6 hng HR5 HO4 HBX5 HBQ5 hcg;go_wp2;go_roundw
     case rel=>exact⟨j+1,q2+pl,A6,c6,by omega,rfl,by go_num,HF,z2⟩
     case measure=>simp[intOf];omega
    ·have hji:((j:Int) < 3)=False:=eq_false (by omega)
     have hj:j=3:=by omega
     have htk:x.ns.take j=x.ns:=List.take_of_length_le (by omega);have ho:=HJ.out.2.1;rw[htk,←HOT.out]at ho;have HF:=Lib.hid (And.intro (show q2≤32 *(k+1) by have:=HJ.out.1;omega) ho);clear ho htk;go_wp2;go_roundw
     case rel=>exact⟨k+1,q2,A4,c4,by omega,rfl,by go_num,HF,hbq⟩
     case measure=>simp[intOf];omega
  ·have hki:((k:Int) < (m:Int))=False:=eq_false (by omega)
   have hall:l.take k=l:=List.take_of_length_le (by omega);have hq:=HQ.out;rw[hall]at hq;have hro:=Row.own hq.2;have hoo:=own_base (own_below HO1.out hbl) HS0.out;have hbz:=HB01.out.trans (hbl.mono HB01.out.size);have hqb:=hq.1;have HRO:=Lib.hid hro;have HOO:=Lib.hid hoo;have HBZ:=Lib.hid hbz;clear hq hro hoo hbz hall;go_wp2_with (at_builtin;refine jq ?_);refine gy (lq rfl (.tmp 57) (.tmp 58) _ rfl w.heap.size 5 i0 _ 1 1 Tryz.underlying56 hi0 hz0 hz1 hz2 rfl (by omega) w HBZ.out HBZ.out.size _ M1 _ rfl HOO.out _ _ q c2 _ rfl HRO.out (ak1 _) (M1+q) (bts (b++It.bytes l)) rfl (by simp[It.bytes,bts,hmn]) (by unfold maxLen;omega) (by omega) ?_);intro A6 c6 w8 z1 z2 z3 z4 z5;have HF:=Lib.hid z1;clear z1 z3 HRO HOO HBZ HQ;go_wp2;go_ret2;exact⟨A6,_,c6,rfl,HF.out,z4,z5,z2⟩
end
section
namespace It
def tks:Nat→List UInt8→Option (List Nat×List UInt8)
 |0,b=>some ([],b)
 |k+1,b=>match tks k b with
  |none=>none
  |some (ns,r)=>if (Pn.take r).2.2=0 then some (ns++[(Pn.take r).1],r.drop (Pn.take r).2.1) else none
def uq1:It:=⟨0,0,0,0,0⟩
theorem mw2 (b:List UInt8):take1 b=if b.length < 2 then (uq1,[],4) else
  if (Pn.take (b.drop 2)).2.2=0 then
   if (Pn.take ((b.drop 2).drop (Pn.take (b.drop 2)).2.1)).2.2=0 then
    if (Pn.take (((b.drop 2).drop (Pn.take (b.drop 2)).2.1).drop (Pn.take ((b.drop 2).drop (Pn.take (b.drop 2)).2.1)).2.1)).2.2=0 then
     (⟨Fr.u b 0,Fr.u b 1,(Pn.take (b.drop 2)).1,(Pn.take ((b.drop 2).drop (Pn.take (b.drop 2)).2.1)).1,ry1 (Pn.take (((b.drop 2).drop (Pn.take (b.drop 2)).2.1).drop (Pn.take ((b.drop 2).drop (Pn.take (b.drop 2)).2.1)).2.1)).1⟩,
      (((b.drop 2).drop (Pn.take (b.drop 2)).2.1).drop (Pn.take ((b.drop 2).drop (Pn.take (b.drop 2)).2.1)).2.1).drop (Pn.take (((b.drop 2).drop (Pn.take (b.drop 2)).2.1).drop (Pn.take ((b.drop 2).drop (Pn.take (b.drop 2)).2.1)).2.1)).2.1,0)
    else (uq1,[],(Pn.take (((b.drop 2).drop (Pn.take (b.drop 2)).2.1).drop (Pn.take ((b.drop 2).drop (Pn.take (b.drop 2)).2.1)).2.1)).2.2)
   else (uq1,[],(Pn.take ((b.drop 2).drop (Pn.take (b.drop 2)).2.1)).2.2)
  else (uq1,[],(Pn.take (b.drop 2)).2.2):=by
 unfold take1;split
 ·rfl
 ·generalize b.drop 2=r1
  generalize hp:Pn.take r1=p;obtain⟨t,n1,e1⟩:=p
  match e1 with
  |e+1=>rfl
  |0=>
   simp only[if_true];generalize r1.drop n1=r2;generalize hp2:Pn.take r2=p2;obtain⟨v,n2,e2⟩:=p2
   match e2 with
   |e+1=>rfl
   |0=>
    simp only[if_true];generalize r2.drop n2=r3;generalize hp3:Pn.take r3=p3;obtain⟨x,n3,e3⟩:=p3
    match e3 with
    |e+1=>rfl
    |0=>rfl
variable {b r:List UInt8} {ns:List Nat} {k:Nat}
theorem rz1:∀{k:Nat} {ns:List Nat} {r:List UInt8},tks k b=some (ns,r)→ns.length=k
 |0,ns,r,h=>by
  simp only[tks,Option.some.injEq,Prod.mk.injEq]at h;rw[←h.1];rfl
 |k+1,ns,r,h=>by
  unfold tks at h;split at h
  ·cases h
  ·rename_i ms q hq
   split at h
   ·simp only[Option.some.injEq,Prod.mk.injEq]at h
    rw[←h.1,List.length_append,rz1 hq];rfl
   ·cases h
theorem jx4 (h:tks k b=some (ns,r)) (he:(Pn.take r).2.2=0):tks (k+1) b=some (ns++[(Pn.take r).1],r.drop (Pn.take r).2.1):=by
 unfold tks;rw[h];simp only;rw[if_pos he]
theorem gz1 {n:Nat} {q:List UInt8} (h:tks (k+1) b=some (ns,r)):∃ms q,tks k b=some (ms,q)∧(Pn.take q).2.2=0∧ns=ms++[(Pn.take q).1]∧r=q.drop (Pn.take q).2.1:=by
 unfold tks at h;split at h
 ·cases h
 ·rename_i ms q hq
  split at h
  ·rename_i he
   simp only[Option.some.injEq,Prod.mk.injEq]at h;exact⟨ms,q,hq,he,h.1.symm,h.2.symm⟩
  ·cases h
theorem px1 (h:tks 0 b=some (ns,r)):ns=[]∧r=b:=by
 simp only[tks,Option.some.injEq,Prod.mk.injEq]at h;exact⟨h.1.symm,h.2.symm⟩
theorem tz3 (h2:¬b.length < 2) (hk:k < 3) (h:tks k (b.drop 2)=some (ns,r)) (he:(Pn.take r).2.2≠0):take1 b=(uq1,[],(Pn.take r).2.2):=by
 rw[mw2,if_neg h2];have e:k=0∨k=1∨k=2:=by omega
 rcases e with rfl|rfl|rfl
 ·obtain⟨_,rfl⟩:=px1 h
  rw[if_neg he]
 ·obtain⟨ms,q,h1,e1,_,rfl⟩:=gz1 (n:=0) (q:=[]) h
  obtain⟨_,rfl⟩:=px1 h1;rw[if_pos e1,if_neg he]
 ·obtain⟨ms,q,h1,e1,_,rfl⟩:=gz1 (n:=0) (q:=[]) h
  obtain⟨ms,q,h3,e3,_,rfl⟩:=gz1 (n:=0) (q:=[]) h1;obtain⟨_,rfl⟩:=px1 h3;rw[if_pos e3,if_pos e1,if_neg he]
theorem ov3 (h2:¬b.length < 2) (h:tks 3 (b.drop 2)=some (ns,r)):take1 b=(⟨Fr.u b 0,Fr.u b 1,ns.getD 0 0,ns.getD 1 0,ry1 (ns.getD 2 0)⟩,r,0):=by
 rw[mw2,if_neg h2];obtain⟨ms,q,h1,e1,rfl,rfl⟩:=gz1 (n:=0) (q:=[]) h;obtain⟨ms,q,h3,e3,rfl,rfl⟩:=gz1 (n:=0) (q:=[]) h1;obtain⟨ms,q,h4,e4,rfl,rfl⟩:=gz1 (n:=0) (q:=[]) h3;obtain⟨rfl,rfl⟩:=px1 h4;rw[if_pos e4,if_pos e3,if_pos e1];rfl
theorem ky3 (n:Nat) (b:List UInt8) (out:List It):takes (n+1) b out=if (take1 b).2.2=0 then takes n (take1 b).2.1 (out++[(take1 b).1]) else ([],[],(take1 b).2.2):=by
 rw[takes];generalize take1 b=p;obtain⟨x,s,e⟩:=p
 match e with
 |0=>rfl
 |e+1=>rfl
theorem vx4 (b:List UInt8):read b=if (Pn.take b).2.2=0 then (if 2000 < (Pn.take b).1 then ([],2) else if (takes (Pn.take b).1 (b.drop (Pn.take b).2.1) []).2.2=0 then (if (takes (Pn.take b).1 (b.drop (Pn.take b).2.1) []).2.1=[]∧(takes (Pn.take b).1 (b.drop (Pn.take b).2.1) []).1.all ok=true then ((takes (Pn.take b).1 (b.drop (Pn.take b).2.1) []).1,0) else ([],3)) else ([],(takes (Pn.take b).1 (b.drop (Pn.take b).2.1) []).2.2)) else ([],(Pn.take b).2.2):=by
 unfold read;generalize Pn.take b=p;obtain⟨n,s,e⟩:=p
 match e with
 |e+1=>rfl
 |0=>
  simp only[if_true];generalize takes n (b.drop s) []=q;obtain⟨o,r,e⟩:=q
  match e with
  |0=>rfl
  |e+1=>rfl
end It
end
section
open Go Go.RowKit
namespace Pn
theorem cw2:∀(l:List UInt8) (i acc:Nat),(takeF i acc l).2.2=0→(takeF i acc l).2.1≤i+l.length
 |[],i,acc,h=>by simp[takeF]at h
 |c::r,i,acc,h=>by
  unfold takeF at h ⊢;split
  ·rw[if_pos (by assumption)]at h;simp at h
  ·rw[if_neg (by assumption)]at h
   split
   ·simp
   ·rw[if_neg (by assumption)]at h
    have:=cw2 r (i+1) _ h;simp only[List.length_cons];omega
theorem take_size {l:List UInt8} (h:(take l).2.2=0):(take l).2.1≤l.length:=by
 have:=cw2 l 0 0 h;unfold take;omega
theorem ey3:∀(l:List UInt8) (i acc:Nat),i≤9→acc < 2 ^ (7 *i)→(takeF i acc l).1 < 2 ^ 64
 |[],i,acc,_,_=>by simp[takeF]
 |c::r,i,acc,hi,ha=>by
  unfold takeF;split
  ·simp
  ·rename_i hn
   have h9:i=9→c.toNat≤1:=fun e=>by
    rcases Nat.lt_or_ge 1 c.toNat with h|h
    ·exact absurd (.inl ⟨e,h⟩) hn
    ·exact h
   have hpow:2 ^ (7 *i)*128=2 ^ (7 *(i+1)):=by rw[Nat.mul_add,Nat.pow_add]
   split
   ·rename_i hc
    show acc+c.toNat *2 ^ (7 *i) < 2 ^ 64
    rcases (by omega:i=9∨i≤8) with rfl|h8
    ·have:=h9 rfl
     have e1:c.toNat *2 ^ (7 *9)≤1 *2 ^ (7 *9):=Nat.mul_le_mul_right _ this;omega
    ·have e1:c.toNat *2 ^ (7 *i)≤127 *2 ^ (7 *i):=Nat.mul_le_mul_right _ (by omega)
     have e2:2 ^ (7 *(i+1))≤2 ^ 63:=Nat.pow_le_pow_right (by omega) (by omega);omega
   ·rename_i hc
    have h8:i≤8:=by
     rcases (by omega:i=9∨i≤8) with rfl|h8
     ·have:=h9 rfl;omega
     ·exact h8
    refine ey3 r (i+1) _ (by omega) ?_;have hcl:=c.toNat_lt;have e1:(c.toNat - 128)*2 ^ (7 *i)≤127 *2 ^ (7 *i):=Nat.mul_le_mul_right _ (by omega);omega
theorem rq3 (l:List UInt8):(take l).1 < 2 ^ 64:=ey3 l 0 0 (by omega) (by simp)
theorem tk1 (j at_:Nat) (l:List UInt8) (out:List Nat):unlistF (j+1) at_ l out=if (take (l.drop at_)).2.2=0 then unlistF j (at_+(take (l.drop at_)).2.1) l (out++[(take (l.drop at_)).1]) else ([],0,(take (l.drop at_)).2.2):=by
 rw[unlistF];generalize take (l.drop at_)=p;obtain⟨x,s,e⟩:=p
 match e with
 |0=>rfl
 |e+1=>rfl
theorem uk2 (l:List UInt8) (most:Nat):ry l most=if (take l).2.2=0 then (if most < (take l).1 then ([],0,2) else unlistF (take l).1 (take l).2.1 l []) else ([],0,(take l).2.2):=by
 unfold ry;generalize take l=p;obtain⟨x,s,e⟩:=p
 match e with
 |0=>rfl
 |e+1=>rfl
theorem cx2:∀(k at_:Nat) (l:List UInt8) (out:List Nat),(unlistF k at_ l out).2.2=0→at_≤l.length→(unlistF k at_ l out).2.1≤l.length
 |0,at_,l,out,_,h=>by simpa [unlistF] using h
 |k+1,at_,l,out,h,ha=>by
  rw[tk1]at h ⊢;have hs:=take_size (l:=l.drop at_);rw[List.length_drop]at hs;split
  ·rename_i h0
   rw[if_pos h0]at h;have:=hs h0;exact cx2 k _ l _ h (by omega)
  ·simp
theorem ux3 (l:List UInt8) (most:Nat) (h:(ry l most).2.2=0):(ry l most).2.1≤l.length∧(ry l most).1.length≤most:=by
 rw[uk2]at h ⊢;have hs:=take_size (l:=l)
 by_cases h0:(take l).2.2=0
 ·rw[if_pos h0]at h ⊢
  by_cases h1:most < (take l).1
  ·rw[if_pos h1]at h;simp at h
  ·rw[if_neg h1]at h ⊢
   refine⟨cx2 _ _ l [] h (hs h0),?_⟩;have:=xz1 _ _ l [] h;simp at this;omega
 ·rw[if_neg h0]at h
  simp at h;exact absurd h h0
end Pn
theorem gk1 {B N:Nat} {w:World} {A:Option Addr} {l:List UInt8} (hr:Row B w A N 1 (bts l)) {s:Nat} (hs:s≤N) {A':Option Addr} (hA:s < N→A'=A.map (·.add s)):Row B w A' (N - s) 1 (bts (l.drop s)):=by
 have h:=hr.cut (A':=A') hs (Nat.le_refl N) (fun hlt=>by rw[Nat.mul_one];exact hA hlt);rw[Nat.mul_one,Nat.mul_one,←jx2,←ej1]at h
 rwa [List.take_of_length_le (by have:=hr.yz;rw[List.length_drop];omega)]at h
theorem jy3 (A:Option Addr) (N c:Nat) (l:List UInt8) (m:Nat) (w:World) (hN:N≤1000000000) (hNc:N≤c) (hm:m≤1000) (hr:Row w.heap.size w A N 1 (bts l)):
  Calls Tryz.prog 289 #[.slice A N c,.int .i64 (m:Int)] w fun e w'=>∃A' k' c',e=.returned (.tuple #[.slice A' k' c',.int .i64 ((Pn.ry l m).2.1:Int),.int .i64 ((Pn.ry l m).2.2:Int)])∧
   w'.ownsRow w.heap.size 22 1 (.slice A' k' c') k' (u64v (Pn.ry l m).1)∧Below w.heap.size w w':=by
 obtain⟨j0,hj0,hj1,hj2,hj3⟩:=info_parts (show (Tryz.prog.info? 22).map (fun i=>(i.zero,i.size,i.bytes))=some (some (.int .u64 0),1,8) by kernel_rfl);have hln:=hr.yz;have ht:=take_any A N c l w (by omega) hr;have hu:=Pn.uk2 l m;have hts:=Pn.take_size (l:=l);have htl:=Pn.rq3 l;obtain⟨R,hR⟩:∃R,R=Pn.ry l m:=⟨_,rfl⟩;rw[←hR]at hu ⊢;generalize hp:Pn.take l=p at *;obtain⟨n,s,er⟩:=p;simp only at ht hu hts htl;clear hp hR;have hmax:max (m:Int) 0=(m:Int):=by omega
 have hmw:IntKind.u64.wrap (m:Int)=(m:Int):=by rw[IntKind.wrap_u64];omega
 by_cases he:er=0
 ·subst he
  rw[if_pos rfl]at hu;have hs:=hts rfl
  by_cases hmn:m < n
  ·rw[if_pos hmn]at hu
   have HU:=Lib.hid hu;have hmn':(m:Int) < (n:Int):=by omega
   clear hu hts hln hr;go_enter Tryz.func289,Tryz.ntmps289;go_wp2_with fail;refine ht.mono ?_;rintro e w1 ⟨rfl,rfl⟩;clear ht;go_wp2;refine bodyPost_ret (v:=.tuple #[.slice none 0 0,.int .i64 0,.int .i64 2]) (by simp[results,go_sem]) rfl ⟨none,0,0,by rw[HU.out];rfl,by rw[HU.out];exact World.ownsRow_nil _ _ _ _,Below.refl _ _⟩
  ·rw[if_neg hmn]at hu
   have HU:=Lib.hid hu;have hmn':((m:Int) < (n:Int))=False:=by simp;omega
   have hn1:n≤1000:=by omega
   have hr0:=hr;clear hu hts;go_enter Tryz.func289,Tryz.ntmps289;go_wp2_with fail;refine ht.mono ?_;rintro e w1 ⟨rfl,rfl⟩;clear ht;go_wp2
   go_loopw [8,10,31] (fun a o x wr=>∃(k at_:Nat) (out:List Nat) (A':Option Addr) (c':Nat),k≤n∧a=.int .i64 (at_:Int)∧o=.slice A' k c'∧x=.int .u64 (k:Int)∧at_≤N∧Hid (R=Pn.unlistF (n - k) at_ l out)∧wr.ownsRow w.heap.size 22 1 (.slice A' k c') k (u64v out)∧Below w.heap.size w wr) (fun _ _ x _=>n - (intOf x).toNat)
   case atStart=>exact⟨0,s,[],none,0,Nat.zero_le _,rfl,rfl,rfl,by omega,HU,World.ownsRow_nil _ _ _ _,Below.refl _ _⟩
   case round=>
    obtain⟨k,at_,out,A',c',hk,rfl,rfl,rfl,hat,hRR,hown,hbl⟩:=hrel
    by_cases hlt:k < n
    ·have hst:=hRR.out
     rw[show n - k=(n - (k+1))+1 by omega,Pn.tk1]at hst;have hts:=Pn.take_size (l:=l.drop at_);obtain⟨A2,hA2⟩:∃A2,(if c=at_ then A else Option.map (fun x=>x.add at_) A)=A2:=⟨_,rfl⟩;have hrow:=gk1 (hr0.below hbl) hat (A':=A2) (fun hlt2=>by rw[←hA2,if_neg (by omega)]);have ht2:=take_any A2 (N - at_) (c - at_) (l.drop at_) wr (by omega) (hrow.up hbl.size);rw[List.length_drop]at hts;generalize Pn.take (l.drop at_)=p at *;obtain⟨y,sz,e2⟩:=p;simp only at hst hts ht2;have hac:at_≤c:=by omega
     have HTS:=Lib.hid hts;clear hrow hts hRR
     by_cases he2:e2=0
     ·subst he2
      rw[if_pos rfl]at hst;have HS:=Lib.hid hst;have hsz:=HTS.out rfl;clear hst;have hrw:=Row.new (n:=1) (size:=1) wr #[.int .u64 (y:Int)] 22 rfl;go_wp2_with fail;refine ht2.mono ?_;rintro e w2 ⟨rfl,rfl⟩;clear ht2;go_wp2_with (at_builtin;refine jq ?_);refine gy (lq rfl (.tmp 44) (.tmp 46) _ rfl w.heap.size 22 j0 _ 1 8 Tryz.underlying341 hj0 hj1 hj2 hj3 rfl (by omega) (wr.alloc (.cells #[.int .u64 (y:Int)] 22)) (Below.refl _ _) (by have:=hbl.size;simp;omega) (.slice A' k c') k (u64v out) rfl (hown.alloc _) (wr.heap.size+1) _ 1 1 [.int .u64 (y:Int)] rfl hrw (by simp[Value.oneCell']) (k+1) _ rfl rfl (by unfold maxLen;omega) (by omega) ?_);intro A3 c3 w3 ho3 hb3 hg3 hc3 hm3;have hbl3:=(hbl.alloc hbl.size (.cells #[.int .u64 (y:Int)] 22)).trans hb3;clear hown hbl hb3 hg3 hrw;go_wp2_with fail;go_roundw
      case rel=>exact⟨k+1,at_+sz,out++[y],A3,c3,by omega,by go_num,rfl,by go_num,by omega,HS,by simpa [u64v] using ho3,hbl3⟩
      case measure=>simp[intOf];omega
     ·rw[if_neg he2]at hst
      have HS:=Lib.hid hst;have he3:((e2:Int)==0)=false:=by simp;omega
      clear hst;go_wp2_with fail;refine ht2.mono ?_;rintro e w2 ⟨rfl,rfl⟩;clear ht2;go_wp2;refine bodyPost_ret (v:=.tuple #[.slice none 0 0,.int .i64 0,.int .i64 (e2:Int)]) (by simp[results,go_sem]) rfl ⟨none,0,0,by rw[HS.out];rfl,by rw[HS.out];exact World.ownsRow_nil _ _ _ _,hbl⟩
    ·obtain rfl:n=k:=by omega
     have hst:=hRR.out;rw[Nat.sub_self,Pn.unlistF]at hst;have HS:=Lib.hid hst;clear hst hRR;go_wp2;refine bodyPost_ret (v:=.tuple #[.slice A' n c',.int .i64 (at_:Int),.int .i64 0]) (by simp[results,go_sem]) rfl ⟨A',n,c',by rw[HS.out];rfl,by rw[HS.out];exact hown,hbl⟩
 ·rw[if_neg he]at hu
  have HU:=Lib.hid hu;have he3:((er:Int)==0)=false:=by simp;omega
  clear hu hts hln hr;go_enter Tryz.func289,Tryz.ntmps289;go_wp2_with fail;refine ht.mono ?_;rintro e w1 ⟨rfl,rfl⟩;clear ht;go_wp2;refine bodyPost_ret (v:=.tuple #[.slice none 0 0,.int .i64 0,.int .i64 (er:Int)]) (by simp[results,go_sem]) rfl ⟨none,0,0,by rw[HU.out];rfl,by rw[HU.out];exact World.ownsRow_nil _ _ _ _,Below.refl _ _⟩
theorem wq3 (B R:Nat) (hB:B≤R) (A:Option Addr) (N c:Nat) (l:List UInt8) (ok:Bool) (most:Nat) (w:World) (hN:N≤1000000000) (hNc:N≤c) (_hm:most < 18446744073709551616)
  (hR:BoxO w 346 R [.slice A N c,.bool ok]) (hr:Row B w A N 1 (bts l)):
  Calls Tryz.prog 290 #[.pointer (some ⟨R,0,none⟩),.int .u64 (most:Int)] w fun e w'=>∃A' N' c',e=.returned (.int .u64 ((Rd.take most (l,ok)).1:Int))∧N'≤c'∧N'≤N∧Row B w' A' N' 1 (bts (Rd.take most (l,ok)).2.1)∧BoxO w' 346 R [.slice A' N' c',.bool (Rd.take most (l,ok)).2.2]∧Chg [R] w w':=by
 have h0:=hR.cell 0;have h1:=hR.cell 1;have hf:=hR.free 0;have hf1:=hR.free 1;have ht:=take_any A N c l w (by omega) (hr.up (Nat.le_trans hB (Nat.le_of_lt hR.lt)));have hts:=Pn.take_size (l:=l);have hln:=hr.yz;have hrt:Rd.take most (l,ok)=if ok=true∧(Pn.take l).2.2=0∧(Pn.take l).1≤most then ((Pn.take l).1,(l.drop (Pn.take l).2.1,true)) else (0,(l,false)):=rfl
 obtain⟨T,hT⟩:∃T,T=Rd.take most (l,ok):=⟨_,rfl⟩;rw[←hT]at hrt ⊢;generalize Pn.take l=p at *;obtain⟨n,s,er⟩:=p;simp only[gE0,gE1]at h0 h1 ht hts hrt;clear hT;have HRT:=Lib.hid hrt;clear hrt;have bad:∀(W:World),(ok=true∧er=0∧n≤most→False)→W=w.setCell ⟨R,1,none⟩ (.bool false)→∃A' N' c',Ending.returned (.int .u64 0)=.returned (.int .u64 (T.1:Int))∧N'≤c'∧N'≤N∧Row B W A' N' 1 (bts T.2.1)∧BoxO W 346 R [.slice A' N' c',.bool T.2.2]∧Chg [R] w W:=by
  intro W h hW;rw[HRT.out,if_neg h,hW];exact⟨A,N,c,rfl,hNc,Nat.le_refl _,hr.setCell hB _,hR.store 1 _,pz w ⟨R,1,none⟩ _⟩
 have BAD:=Lib.hid bad;clear bad
 cases ok with
 |false=>
  clear hts hln;go_enter Tryz.func290,Tryz.ntmps290;go_wp2_with fail;refine ht.mono ?_;rintro e w1 ⟨rfl,rfl⟩;clear ht;go_wp2;go_ret;exact BAD.out _ (fun h=>by cases h.1) rfl
 |true=>
  by_cases he:er=0
  ·by_cases hn:n≤most
   ·subst he
    have hsl:=hts rfl;obtain⟨A',hA'⟩:∃A',(if c=s then A else Option.map (fun x=>x.add s) A)=A':=⟨_,rfl⟩;have hrow:=gk1 hr (s:=s) (A':=A') (by omega) (fun hlt=>by rw[←hA',if_neg (by omega)]);have hn':((most:Int) < (n:Int))=False:=by simp;omega
    have hsN:s≤N:=by omega
    have hscc:s≤c:=by omega
    have hres:T=(n,(l.drop s,true)):=by rw[HRT.out,if_pos ⟨rfl,rfl,hn⟩]
    have HRES:=Lib.hid hres;clear hts hln hres BAD HRT;go_enter Tryz.func290,Tryz.ntmps290;go_wp2_with fail;refine ht.mono ?_;rintro e w1 ⟨rfl,rfl⟩;clear ht;go_wp2;go_ret;rw[HRES.out];exact⟨A',N - s,c - s,rfl,by omega,by omega,hrow.setCell hB _,hR.store 0 _,pz w ⟨R,0,none⟩ _⟩
   ·subst he
    have hn':(most:Int) < (n:Int):=by omega
    clear hts hln;go_enter Tryz.func290,Tryz.ntmps290;go_wp2_with fail;refine ht.mono ?_;rintro e w1 ⟨rfl,rfl⟩;clear ht;go_wp2;go_ret;exact BAD.out _ (fun h=>hn h.2.2) rfl
  ·have he3:((er:Int)==0)=false:=by simp;omega
   have he4:¬(er:Int)=0:=by omega
   clear hts hln;go_enter Tryz.func290,Tryz.ntmps290;go_wp2_with fail;refine ht.mono ?_;rintro e w1 ⟨rfl,rfl⟩;clear ht;go_wp2;go_ret;exact BAD.out _ (fun h=>he h.2.1) rfl
end
section
open Go Go.RowKit Go.Lib
theorem mz3 (n:Nat) (hn:n < 18446744073709551616):
  bits .xor .i64 ((n:Int) / 2) (wrap64 (-(wrap64 (bits .and .u64 (n:Int) 1))))=ry1 n:=by
 have h1:bits .and .u64 (n:Int) 1=((n % 2:Nat):Int):=by
  have:=fw2 (BitVec.ofNat 64 n) (BitVec.ofNat 64 1);rw[BitVec.toNat_ofNat,BitVec.toNat_ofNat,Nat.mod_eq_of_lt hn,BitVec.toNat_and,BitVec.toNat_ofNat,BitVec.toNat_ofNat,Nat.mod_eq_of_lt hn]at this;rw[show (1:Int)=((1 % 2 ^ 64:Nat):Int) from rfl,this]
  congr 1
  exact Nat.and_one_is_mod n
 have h2:∀a b:Int,bits .xor .i64 a b=IntKind.i64.wrap ((BitVec.ofInt 64 a ^^^ BitVec.ofInt 64 b).toNat:Int):=fun _ _=>rfl;rw[h1,h2];unfold ry1;rw[IntKind.wrap_i64]
 rcases Nat.mod_two_eq_zero_or_one n with h0|h0
 ·have e2:wrap64 (-(wrap64 ((0:Nat):Int)))=0:=by simp[wrap64]
  have e3:(n:Int) / 2=((n / 2:Nat):Int):=by omega
  rw[if_pos h0,h0,e2,e3,show BitVec.ofInt 64 0=0#64 from rfl,BitVec.xor_zero,BitVec.ofInt_natCast,BitVec.toNat_ofNat];omega
 ·have e2:wrap64 (-(wrap64 ((1:Nat):Int)))=-1:=by simp[wrap64]
  have e3:(n:Int) / 2=((n / 2:Nat):Int):=by omega
  rw[if_neg (by omega),h0,e2,e3,show BitVec.ofInt 64 (-1)=BitVec.allOnes 64 from by decide,BitVec.xor_allOnes,BitVec.toNat_not,BitVec.ofInt_natCast,BitVec.toNat_ofNat];omega
theorem mk3 (n:Nat) (hn:n < 18446744073709551616) (w:World):
  Calls Tryz.prog 335 #[.int .u64 (n:Int)] w fun e w'=>e=.returned (.int .i64 (ry1 n))∧w'=w:=by
 have HS:=Lib.hid (mz3 n hn);go_enter Tryz.func335,Tryz.ntmps335;go_wp2;rw[HS.out];go_ret;exact⟨rfl,rfl⟩
def sj4 (B0 N:Nat) (w:World) (R:It×List UInt8×Nat) (e:Ending) (w':World):Prop:=∃A' n' c',e=.returned (.tuple #[R.1.val,.slice A' n' c',.int .i64 (R.2.2:Int)])∧Row B0 w A' n' 1 (bts R.2.1)∧n'≤N∧n'≤c'∧c'≤maxLen∧Below w.heap.size w w'
def a3 (ns:List Nat):List Value:=[.int .u64 (ns.getD 0 0:Nat),.int .u64 (ns.getD 1 0:Nat),.int .u64 (ns.getD 2 0:Nat)]
theorem zv4 (ns:List Nat) (x:Nat) (h:ns.length < 3):(a3 ns).set ns.length (.int .u64 (x:Int))=a3 (ns++[x]):=by
 match ns,h with
 |[],_=>rfl
 |[a],_=>rfl
 |[a,b],_=>rfl
theorem bq5 {w:World} {g:Nat} {cs:List Value} (x:It) (h:BoxO w 36 g cs) (hl:cs.length=5):BoxO (((((w.setCell ⟨g,0,none⟩ (.int .i64 x.s)).setCell ⟨g,1,none⟩ (.int .i64 x.k)).setCell ⟨g,2,none⟩ (.int .u64 (x.t:Int))).setCell ⟨g,3,none⟩ (.int .u64 (x.v:Int))).setCell ⟨g,4,none⟩ (.int .i64 x.x)) 36 g x.cells∧Chg [g] w (((((w.setCell ⟨g,0,none⟩ (.int .i64 x.s)).setCell ⟨g,1,none⟩ (.int .i64 x.k)).setCell ⟨g,2,none⟩ (.int .u64 (x.t:Int))).setCell ⟨g,3,none⟩ (.int .u64 (x.v:Int))).setCell ⟨g,4,none⟩ (.int .i64 x.x)):=by
 obtain⟨a0,a1,a2,a3,a4,rfl⟩:∃a0 a1 a2 a3 a4,cs=[a0,a1,a2,a3,a4]:=by
  match cs,hl with
  |[a0,a1,a2,a3,a4],_=>exact⟨_,_,_,_,_,rfl⟩
 exact⟨((((h.store 0 _).store 1 _).store 2 _).store 3 _).store 4 _,(((((Chg.refl _ w).setCell _ (.inl (by simp))).setCell _ (.inl (by simp))).setCell _ (.inl (by simp))).setCell _ (.inl (by simp))).setCell _ (.inl (by simp))⟩
theorem bj2 {w:World} {g:Nat} {cs:List Value} (h:BoxO w 36 g cs) (hl:cs.length=5):∃a0 a1 a2 a3 a4,w.cell? ⟨g,0,none⟩=some a0∧w.cell? ⟨g,1,none⟩=some a1∧w.cell? ⟨g,2,none⟩=some a2∧w.cell? ⟨g,3,none⟩=some a3∧w.cell? ⟨g,4,none⟩=some a4:=by
 match cs,hl with
 |[a0,a1,a2,a3,a4],_=>exact⟨a0,a1,a2,a3,a4,h.cell 0,h.cell 1,h.cell 2,h.cell 3,h.cell 4⟩
theorem eq5 {w:World} {g k:Nat} {cs:List Value} (h:BoxO w 392 g cs) (hl:cs.length=3) (hk:k < 3):∃u,w.cell? ⟨g,k,none⟩=some u:=by
 rw[h.cell];exact⟨_,List.getElem?_eq_getElem (by omega)⟩
theorem rz4:∀{k:Nat} {b:List UInt8} {ns:List Nat} {r:List UInt8},It.tks k b=some (ns,r)→∀n∈ns,n < 18446744073709551616
 |0,b,ns,r,h=>by
  obtain⟨rfl,_⟩:=It.px1 h;simp
 |k+1,b,ns,r,h=>by
  obtain⟨ms,q,h1,_,rfl,_⟩:=It.gz1 (n:=0) (q:=[]) h;intro n hn
  rcases List.mem_append.1 hn with h2|h2
  ·exact rz4 h1 n h2
  ·rw[List.mem_singleton.1 h2]
   exact Pn.rq3 q
theorem wy4 {b:List UInt8} {ns:List Nat} {r:List UInt8} (h:It.tks 3 b=some (ns,r)):ns.getD 2 0 < 18446744073709551616:=by
 have h1:=It.rz1 h;have h2:2 < ns.length:=by omega
 rw[List.getD_eq_getElem?_getD,List.getElem?_eq_getElem h2];exact rz4 h _ (List.getElem_mem h2)
theorem one_any (A:Option Addr) (N c:Nat) (b:List UInt8) (w:World) (hN:N≤1000000) (hNc:N≤c) (hcm:c≤maxLen) (B0:Nat) (hB0:B0≤w.heap.size) (hrB:Row B0 w A N 1 (bts b)):
  Calls Tryz.prog 296 #[.slice A N c] w (sj4 B0 N w (It.take1 b)):=by
 have hr:=hrB.up hB0;have hln:=hr.yz;have hU:=(Below.refl w.heap.size w).alloc (Nat.le_refl _) (.cells #[.int .i64 0,.int .i64 0,.int .u64 0,.int .u64 0,.int .i64 0] 36);have hbx:BoxO (w.alloc (.cells #[.int .i64 0,.int .i64 0,.int .u64 0,.int .u64 0,.int .i64 0] 36)) 36 w.heap.size [.int .i64 0,.int .i64 0,.int .u64 0,.int .u64 0,.int .i64 0]:=BoxO.new w _ 36
 by_cases h2:b.length < 2
 ·have hn2:(N:Int) < 2:=by omega
  have hR:It.take1 b=(It.uq1,[],4):=by rw[It.mw2,if_pos h2]
  rw[hR];have c0:=hbx.cell 0;have c1:=hbx.cell 1;have c2:=hbx.cell 2;have c3:=hbx.cell 3;have c4:=hbx.cell 4;have f0:=hbx.free 0;have f1:=hbx.free 1;have f2:=hbx.free 2;have f3:=hbx.free 3;have f4:=hbx.free 4;simp only[gE0,gE1]at c0 c1 c2 c3 c4;have HB:=Lib.hid hU;clear hbx hU hR;go_enter Tryz.func296,Tryz.ntmps296;go_wp2;refine bodyPost_ret (v:=.tuple #[It.uq1.val,.slice none 0 0,.int .i64 4]) (by simp[results,go_sem,It.val,It.uq1, *]) rfl ⟨none,0,0,rfl,Row.nil_,by omega,by omega,by omega,?_⟩;exact HB.out
 ·have hn2:((N:Int) < 2)=False:=eq_false (by omega)
  obtain⟨p,hl0,hA,hpb,d0⟩:=hr.bt (k:=0) (by omega);obtain⟨p',hl1,hA',_,d1⟩:=hr.bt (k:=1) (by omega);rw[hA]at hA';injection hA' with hA';subst hA' hA;have hu0:Fr.u b 0=(b[0]).toNat:=by simp[Fr.u,List.getD_eq_getElem?_getD,List.getElem?_eq_getElem hl0]
  have hu1:Fr.u b 1=(b[1]).toNat:=by simp[Fr.u,List.getD_eq_getElem?_getD,List.getElem?_eq_getElem hl1]
  rw[←hu0]at d0;rw[←hu1]at d1;obtain⟨s,hs⟩:∃s,s=Fr.u b 0:=⟨_,rfl⟩;obtain⟨kd,hkd⟩:∃kd,kd=Fr.u b 1:=⟨_,rfl⟩;rw[←hs]at d0;rw[←hkd]at d1;have hs8:s < 256:=by rw[hs,hu0];exact(b[0]).toNat_lt
  have hk8:kd < 256:=by rw[hkd,hu1];exact(b[1]).toNat_lt
  have hws:IntKind.i64.wrap (s:Int)=(s:Int):=IntWalk.i64_in _ (by omega);have hwk:IntKind.i64.wrap (kd:Int)=(kd:Int):=IntWalk.i64_in _ (by omega);rw[show p.add 0=p from rfl]at d0;rw[show p.add 1=⟨p.block,p.off+1,none⟩ from rfl]at d1;have hkc:∀w',Chg [w.heap.size] (w.alloc (.cells #[.int .i64 0,.int .i64 0,.int .u64 0,.int .u64 0,.int .i64 0] 36)) w'→w'.cell? p=some (.int .u8 (s:Int))∧w'.cell? ⟨p.block,p.off+1,none⟩=some (.int .u8 (kd:Int)):=fun w' hc=>by
   have hb:=hU.trans (hc.below hU.size (fun g hg=>by rw[List.mem_singleton.1 hg];exact Nat.le_refl _));exact⟨(hb.cell (p:=p) hpb).trans d0,(hb.cell (p:=⟨p.block,p.off+1,none⟩) hpb).trans d1⟩
  have hr2:=gk1 hr (s:=2) (by omega) (A':=some (p.add 2)) (fun _=>rfl);obtain⟨V,hV⟩:∃V,V=w.alloc (.cells #[.int .i64 0,.int .i64 0,.int .u64 0,.int .u64 0,.int .i64 0] 36):=⟨_,rfl⟩;rw[←hV]at hkc hU hbx;have KC:=Lib.hid hkc;have HU:=Lib.hid hU;have HBX:=Lib.hid hbx;have HS:=Lib.hid (And.intro hs hkd);have HR:=Lib.hid hrB;have hVs:=hV.symm;obtain⟨A2,hA2⟩:∃A2,(if c=2 then some p else some ⟨p.block,p.off+2,none⟩)=A2:=⟨_,rfl⟩;have hc2:2≤c:=by omega
  have hN0:0 < N:=by omega
  have hN1:1 < N:=by omega
  have hN0i:(0:Int) < (N:Int):=by omega
  have hN1i:(1:Int) < (N:Int):=by omega
  have hN2:2≤N:=by omega
  have hN2i:(2:Int)≤(N:Int):=by omega
  clear hkc hU hbx hs hkd hr hV hr2 d0 d1 hu0 hu1;go_enter Tryz.func296,Tryz.ntmps296;go_wp2_with fail;refine wp_region_held_drew (S:=fun w'=>Chg [w.heap.size] V w'∧∃cs:List Value,cs.length=5∧BoxO w' 36 w.heap.size cs) rfl ⟨(Chg.refl _ V).drew,_,rfl,HBX.out.drew⟩ (fun hSw=>?_);refine wpT (i:=0) (v:=?vra0) ?hra0 hSw ?kra0
  case hra0=>(intro w hSw;(obtain⟨d0,d1⟩:=KC.out w hSw.1);go_simp;try (with_reducible rfl))
  go_simp;refine wpT (i:=1) (v:=?vra1) ?hra1 hSw ?kra1
  case hra1=>(intro w hSw;(obtain⟨d0,d1⟩:=KC.out w hSw.1);go_simp;try (with_reducible rfl))
  go_simp;refine wpT (i:=2) (v:=?vra2) ?hra2 hSw ?kra2
  case hra2=>(intro w hSw;(obtain⟨d0,d1⟩:=KC.out w hSw.1);go_simp;try (with_reducible rfl))
  go_simp;refine wpT (i:=3) (v:=?vra3) ?hra3 hSw ?kra3
  case hra3=>(intro w hSw;(obtain⟨d0,d1⟩:=KC.out w hSw.1);go_simp;try (with_reducible rfl))
  go_simp;refine wpT (i:=4) (v:=?vra4) ?hra4 hSw ?kra4
  case hra4=>(intro w hSw;(obtain⟨d0,d1⟩:=KC.out w hSw.1);go_simp;try (with_reducible rfl))
  go_simp;refine wpT (i:=5) (v:=?vra5) ?hra5 hSw ?kra5
  case hra5=>(intro w hSw;(obtain⟨d0,d1⟩:=KC.out w hSw.1);go_simp;try (with_reducible rfl))
  go_simp;refine wpT (i:=6) (v:=?vra6) ?hra6 hSw ?kra6
  case hra6=>(intro w hSw;(obtain⟨d0,d1⟩:=KC.out w hSw.1);go_simp;try (with_reducible rfl))
  go_simp;refine wpT (i:=7) (v:=?vra7) ?hra7 hSw ?kra7
  case hra7=>(intro w hSw;(obtain⟨d0,d1⟩:=KC.out w hSw.1);go_simp;try (with_reducible rfl))
  go_simp;refine wpT (i:=8) (v:=?vra8) ?hra8 hSw ?kra8
  case hra8=>(intro w hSw;(obtain⟨d0,d1⟩:=KC.out w hSw.1);go_simp;try (with_reducible rfl))
  go_simp;refine wpAnyH_ready (rs:=[9]) (by kernel_rfl) (by simp) ?_;refine AllReadyH.cons rfl (fun K hK=>?_) AllReadyH.nil
  (obtain⟨cs,hcl,hcb⟩:=hSw.2;obtain⟨_,_,_,_,_,q0,q1,q2,q3,q4⟩:=bj2 hcb hcl;have z0:=hcb.free 0)
  go_simp;refine hK.out _ _ ⟨hSw.1.setCell _ (.inl (by simp)),_,by rw[List.length_set];exact hcl,hcb.store 0 _⟩ (fun hSn=>?_);clear hK K hSw;have hSw:=hSn;clear hSn;go_simp;refine wpT (i:=10) (v:=?vra10) ?hra10 hSw ?kra10
  case hra10=>(intro w hSw;(obtain⟨d0,d1⟩:=KC.out w hSw.1);go_simp;try (with_reducible rfl))
  go_simp;refine wpAnyH_ready (rs:=[11]) (by kernel_rfl) (by simp) ?_;refine AllReadyH.cons rfl (fun K hK=>?_) AllReadyH.nil
  (obtain⟨cs,hcl,hcb⟩:=hSw.2;obtain⟨_,_,_,_,_,q0,q1,q2,q3,q4⟩:=bj2 hcb hcl;have z0:=hcb.free 1)
  go_simp;refine hK.out _ _ ⟨hSw.1.setCell _ (.inl (by simp)),_,by rw[List.length_set];exact hcl,hcb.store 1 _⟩ (fun hSn=>?_);clear hK K hSw;have hSw:=hSn;clear hSn;go_simp;refine wpAnyH_done (by kernel_rfl) ?_ _;clear hSw KC;have hbW:BoxO ((V.setCell ⟨w.heap.size,0,none⟩ (.int .i64 (s:Int))).setCell ⟨w.heap.size,1,none⟩ (.int .i64 (kd:Int))).drew 36 w.heap.size [.int .i64 (s:Int),.int .i64 (kd:Int),.int .u64 0,.int .u64 0,.int .i64 0]:=((HBX.out.store 0 _).store 1 _).drew;have hcW:Chg [w.heap.size] V ((V.setCell ⟨w.heap.size,0,none⟩ (.int .i64 (s:Int))).setCell ⟨w.heap.size,1,none⟩ (.int .i64 (kd:Int))).drew:=(((Chg.refl _ V).setCell _ (.inl (by simp))).setCell _ (.inl (by simp))).drew;have hlw:w.heap.size < V.heap.size:=HBX.out.lt;obtain⟨W,hW⟩:∃W,W=((V.setCell ⟨w.heap.size,0,none⟩ (.int .i64 (s:Int))).setCell ⟨w.heap.size,1,none⟩ (.int .i64 (kd:Int))).drew:=⟨_,rfl⟩;rw[←hW]at hbW hcW ⊢;have hUb:=HU.out.trans (hcW.below HU.out.size (fun g hg=>by rw[List.mem_singleton.1 hg];exact Nat.le_refl _));have hr2:=gk1 HR.out (s:=2) hN2 (A':=A2) (fun hlt=>by rw[←hA2,if_neg (by omega)];rfl);have hUa:=hUb.alloc hUb.size (.cells #[.int .u64 0,.int .u64 0,.int .u64 0] 392);have hba:=BoxO.new W #[.int .u64 0,.int .u64 0,.int .u64 0] 392;have hbg:=hbW.alloc (.cells #[.int .u64 0,.int .u64 0,.int .u64 0] 392);have hgl:=hbW.lt;obtain⟨Y,hY⟩:∃Y,Y=W.alloc (.cells #[.int .u64 0,.int .u64 0,.int .u64 0] 392):=⟨_,rfl⟩;rw[←hY]at hUa hba hbg;have hYs:=hY.symm;have hne:w.heap.size≠W.heap.size:=by omega
  have hge:w.heap.size≤W.heap.size:=by omega
  have HUA:=Lib.hid hUa;have HBA:=Lib.hid (show BoxO Y 392 W.heap.size (a3 []) from hba);have HBG:=Lib.hid hbg;have HR2:=Lib.hid hr2;have HNE:=Lib.hid (And.intro hne hge);clear hbW hcW hW hUb hr2 hUa hba hbg hY hlw hgl hVs HBX HU HR hne hge hpb hl0 hl1;go_wp2_with fail
  go_loopw [0,26] (fun bv i wr=>∃(k n:Nat) (A4:Option Addr) (c4:Nat) (ns:List Nat) (r:List UInt8),k≤3∧bv=.slice A4 n c4∧i=.int .i64 (k:Int)∧Hid (It.tks k (b.drop 2)=some (ns,r)∧Row B0 w A4 n 1 (bts r)∧n≤c4∧c4≤maxLen∧n≤N∧BoxO wr 392 W.heap.size (a3 ns))∧Chg [W.heap.size] Y wr) (fun _ i _=>3 - (intOf i).toNat)
  case atStart=>exact⟨0,N - 2,A2,c - 2,[],b.drop 2,by omega,by simp,rfl,Lib.hid ⟨rfl,HR2.out,by omega,by unfold maxLen at *;omega,by omega,HBA.out⟩,Chg.refl _ _⟩
  case round=>
   obtain⟨k,n,A4,c4,ns,r,hk3,rfl,rfl,HK,hc⟩:=hrel;have hbw:=HUA.out.trans (hc.below HUA.out.size (fun g hg=>by rw[List.mem_singleton.1 hg];exact HNE.out.2));have hbg:=HBG.out.chg hc (by simpa using HNE.out.1);have hnsl:=It.rz1 HK.out.1
   by_cases hk:k < 3
   ·have hki:(k:Int) < 3:=by omega
    have hwk':IntKind.i64.wrap (k:Int)=(k:Int):=IntWalk.i64_in _ (by omega);have hrr:=((HK.out.2.1.up hB0).below hbw).up hbw.size;have hrl:=hrr.yz;have htk:=take_any A4 n c4 r wr (by have:=HK.out.2.2.2.2.1;omega) hrr;have hsz:=Pn.take_size (l:=r);obtain⟨x,hx⟩:∃x,x=(Pn.take r).1:=⟨_,rfl⟩;obtain⟨sz,hsze⟩:∃sz,sz=(Pn.take r).2.1:=⟨_,rfl⟩;obtain⟨er,her⟩:∃er,er=(Pn.take r).2.2:=⟨_,rfl⟩;rw[←hx,←hsze,←her]at htk;rw[←her,←hsze]at hsz;have HTK:=Lib.hid htk;have HX:=Lib.hid hx;have HSZ:=Lib.hid hsze;have HER:=Lib.hid her
    by_cases he:er=0
    ·subst he
     have hszl:=hsz rfl;have htks:=It.jx4 HK.out.1 HER.out.symm;obtain⟨A5,hA5⟩:∃A5,(if c4=sz then A4 else Option.map (fun x=>x.add sz) A4)=A5:=⟨_,rfl⟩;have hr5:=gk1 HK.out.2.1 (s:=sz) (by omega) (A':=A5) (fun hlt2=>by rw[←hA5,if_neg (by have:=HK.out.2.2.1;omega)]);rw[←HX.out,←HSZ.out]at htks;have hszn:sz≤n:=by omega
     have hszni:(sz:Int)≤(n:Int):=by omega
     have hszc:sz≤c4:=by have:=HK.out.2.2.1;omega
     have hszci:(sz:Int)≤(c4:Int):=by omega
     have HT:=Lib.hid (And.intro htks hr5);have HCB:=Lib.hid (And.intro hc hbw);clear htk hsz htks hr5 hrr hx hsze her hbg hbw hnsl;go_wp2_with fail;refine HTK.out.mono ?_;rintro e w1 ⟨rfl,hw1⟩;subst hw1;clear HTK;go_wp2_with fail;refine wp_region_held_drew (S:=fun w'=>Chg [W.heap.size] Y w'∧∃cs:List Value,cs.length=3∧BoxO w' 392 W.heap.size cs) rfl ⟨HCB.out.1.drew,_,rfl,HK.out.2.2.2.2.2.drew⟩ (fun hSw=>?_);refine wpT (i:=0) (v:=?vrb0) ?hrb0 hSw ?krb0
     case hrb0=>(intro w hSw;skip;go_simp;try (with_reducible rfl))
     go_simp;refine wpT (i:=1) (v:=?vrb1) ?hrb1 hSw ?krb1
     case hrb1=>(intro w hSw;skip;go_simp;try (with_reducible rfl))
     go_simp;refine wpT (i:=2) (v:=?vrb2) ?hrb2 hSw ?krb2
     case hrb2=>(intro w hSw;skip;go_simp;try (with_reducible rfl))
     go_simp;refine wpT (i:=3) (v:=?vrb3) ?hrb3 hSw ?krb3
     case hrb3=>(intro w hSw;skip;go_simp;try (with_reducible rfl))
     go_simp;refine wpT (i:=4) (v:=?vrb4) ?hrb4 hSw ?krb4
     case hrb4=>(intro w hSw;skip;go_simp;try (with_reducible rfl))
     go_simp;refine wpT (i:=5) (v:=?vrb5) ?hrb5 hSw ?krb5
     case hrb5=>(intro w hSw;skip;go_simp;try (with_reducible rfl))
     go_simp;refine wpAnyH_ready (rs:=[6]) (by kernel_rfl) (by simp) ?_;refine AllReadyH.cons rfl (fun K hK=>?_) AllReadyH.nil
     (obtain⟨cs,hcl,hcb⟩:=hSw.2;obtain⟨_,q0⟩:=eq5 hcb hcl hk;have z0:=hcb.free k)
     go_simp;refine hK.out _ _ ⟨hSw.1.setCell _ (.inl (by simp)),_,by rw[List.length_set];exact hcl,hcb.store k _⟩ (fun hSn=>?_);clear hK K hSw;have hSw:=hSn;clear hSn;go_simp;refine wpT (i:=7) (v:=?vrb7) ?hrb7 hSw ?krb7
     case hrb7=>(intro w hSw;skip;go_simp;try (with_reducible rfl))
     go_simp;refine wpAnyH_done (by kernel_rfl) ?_ _;have hc3:Chg [W.heap.size] Y (wr.setCell ⟨W.heap.size,k,none⟩ (.int .u64 (x:Int))).drew:=(HCB.out.1.setCell _ (.inl (by simp))).drew;have hb3:=(HK.out.2.2.2.2.2.store k (.int .u64 (x:Int))).drew;rw[←It.rz1 HK.out.1,zv4 ns x (by rw[It.rz1 HK.out.1];exact hk),It.rz1 HK.out.1]at hb3;have HF:=Lib.hid (And.intro hb3 hc3);clear hSw hb3 hc3;go_wp2;go_roundw
     case rel=>exact⟨k+1,n - sz,A5,c4 - sz,ns++[x],r.drop sz,by omega,by simp[hA5],by go_num,Lib.hid ⟨HT.out.1,HT.out.2,by have:=HK.out.2.2.1;omega,by have:=HK.out.2.2.2.1;omega,by have:=HK.out.2.2.2.2.1;omega,HF.out.1⟩,HF.out.2⟩
     case measure=>simp[intOf];omega
    ·have hR:It.take1 b=(It.uq1,[],er):=by rw[It.tz3 h2 hk HK.out.1 (by rw[←HER.out];exact he),←HER.out]
     have he3:((er:Int)==0)=false:=by simp;omega
     have q0:=hbg.cell 0;have q1:=hbg.cell 1;have q2:=hbg.cell 2;have q3:=hbg.cell 3;have q4:=hbg.cell 4;have z0:=hbg.free 0;have z1:=hbg.free 1;have z2:=hbg.free 2;have z3:=hbg.free 3;have z4:=hbg.free 4;simp only[gE0,gE1]at q0 q1 q2 q3 q4;have hfin:=hbw.trans ((bq5 It.uq1 hbg rfl).2.below hbw.size (fun g hg=>by rw[List.mem_singleton.1 hg];exact Nat.le_refl _));have HFIN:=Lib.hid hfin;have HR:=Lib.hid hR;clear htk hsz hrr hx hsze her hbg hbw hnsl hfin hR;go_wp2_with fail;refine HTK.out.mono ?_;rintro e w1 ⟨rfl,hw1⟩;subst hw1;clear HTK;go_wp2;rw[HR.out];refine bodyPost_ret (v:=.tuple #[It.uq1.val,.slice none 0 0,.int .i64 (er:Int)]) (by simp[results,go_sem,It.val,It.uq1, *]) rfl ⟨none,0,0,rfl,Row.nil_,by omega,by omega,by omega,HFIN.out⟩
   ·obtain rfl:k=3:=by omega
    have hR:=It.ov3 h2 HK.out.1;rw[←HS.out.1,←HS.out.2]at hR;have hbA:=HK.out.2.2.2.2.2;have hus:=fun W1=>mk3 (ns.getD 2 0) (wy4 HK.out.1) W1;have hkz:∀w',Chg [w.heap.size] wr w'→w'.cell? ⟨W.heap.size,0,none⟩=some (.int .u64 (ns.getD 0 0:Nat))∧w'.cell? ⟨W.heap.size,1,none⟩=some (.int .u64 (ns.getD 1 0:Nat))∧w'.cell? ⟨W.heap.size,2,none⟩=some (.int .u64 (ns.getD 2 0:Nat)):=fun w' h=>by
     have e:=hbA.chg h (by simpa using fun e=>HNE.out.1 e.symm);exact⟨e.cell 0,e.cell 1,e.cell 2⟩
    generalize ns.getD 0 0=t at *;generalize ns.getD 1 0=v at *;generalize ns.getD 2 0=xv at *;have KZ:=Lib.hid hkz;have HUS:=Lib.hid hus;have HR:=Lib.hid hR;have HBW:=Lib.hid hbw;have HBG2:=Lib.hid hbg;clear hkz hus hR hbA hbw hbg;go_wp2_with fail;refine wp_region_held_drew (S:=fun w'=>Chg [w.heap.size] wr w'∧∃cs:List Value,cs.length=5∧BoxO w' 36 w.heap.size cs) rfl ⟨(Chg.refl _ wr).drew,_,rfl,HBG2.out.drew⟩ (fun hSw=>?_);refine wpT (i:=0) (v:=?vrc0) ?hrc0 hSw ?krc0
    case hrc0=>(intro w hSw;(obtain⟨d0,d1,d2⟩:=KZ.out w hSw.1);go_simp;try (with_reducible rfl))
    go_simp;refine wpT (i:=1) (v:=?vrc1) ?hrc1 hSw ?krc1
    case hrc1=>(intro w hSw;(obtain⟨d0,d1,d2⟩:=KZ.out w hSw.1);go_simp;try (with_reducible rfl))
    go_simp;refine wpT (i:=2) (v:=?vrc2) ?hrc2 hSw ?krc2
    case hrc2=>(intro w hSw;(obtain⟨d0,d1,d2⟩:=KZ.out w hSw.1);go_simp;try (with_reducible rfl))
    go_simp;refine wpT (i:=3) (v:=?vrc3) ?hrc3 hSw ?krc3
    case hrc3=>(intro w hSw;(obtain⟨d0,d1,d2⟩:=KZ.out w hSw.1);go_simp;try (with_reducible rfl))
    go_simp;refine wpT (i:=4) (v:=?vrc4) ?hrc4 hSw ?krc4
    case hrc4=>(intro w hSw;(obtain⟨d0,d1,d2⟩:=KZ.out w hSw.1);go_simp;try (with_reducible rfl))
    go_simp;refine wpT (i:=5) (v:=?vrc5) ?hrc5 hSw ?krc5
    case hrc5=>(intro w hSw;(obtain⟨d0,d1,d2⟩:=KZ.out w hSw.1);go_simp;try (with_reducible rfl))
    go_simp;refine wpT (i:=7) (v:=?vrc7) ?hrc7 hSw ?krc7
    case hrc7=>(intro w hSw;(obtain⟨d0,d1,d2⟩:=KZ.out w hSw.1);go_simp;try (with_reducible rfl))
    go_simp;refine wpAnyH_ready (rs:=[6]) (by kernel_rfl) (by simp) ?_;refine AllReadyH.cons rfl (fun K hK=>?_) AllReadyH.nil;go_simp
    with_reducible refine(HUS.out _).mono ?_
    rintro e w7 ⟨rfl,rfl⟩;go_simp;refine hK.out _ _ hSw (fun hSn=>?_);clear hK K hSw;have hSw:=hSn;clear hSn;go_simp;refine wpAnyH_ready (rs:=[8]) (by kernel_rfl) (by simp) ?_;refine AllReadyH.cons rfl (fun K hK=>?_) AllReadyH.nil
    (obtain⟨cs,hcl,hcb⟩:=hSw.2;obtain⟨_,_,_,_,_,q0,q1,q2,q3,q4⟩:=bj2 hcb hcl;have z0:=hcb.free 2)
    go_simp;refine hK.out _ _ ⟨hSw.1.setCell _ (.inl (by simp)),_,by rw[List.length_set];exact hcl,hcb.store 2 _⟩ (fun hSn=>?_);clear hK K hSw;have hSw:=hSn;clear hSn;go_simp;refine wpT (i:=9) (v:=?vrc9) ?hrc9 hSw ?krc9
    case hrc9=>(intro w hSw;(obtain⟨d0,d1,d2⟩:=KZ.out w hSw.1);go_simp;try (with_reducible rfl))
    go_simp;refine wpAnyH_ready (rs:=[10]) (by kernel_rfl) (by simp) ?_;refine AllReadyH.cons rfl (fun K hK=>?_) AllReadyH.nil
    (obtain⟨cs,hcl,hcb⟩:=hSw.2;obtain⟨_,_,_,_,_,q0,q1,q2,q3,q4⟩:=bj2 hcb hcl;have z0:=hcb.free 3)
    go_simp;refine hK.out _ _ ⟨hSw.1.setCell _ (.inl (by simp)),_,by rw[List.length_set];exact hcl,hcb.store 3 _⟩ (fun hSn=>?_);clear hK K hSw;have hSw:=hSn;clear hSn;go_simp;refine wpT (i:=11) (v:=?vrc11) ?hrc11 hSw ?krc11
    case hrc11=>(intro w hSw;(obtain⟨d0,d1,d2⟩:=KZ.out w hSw.1);go_simp;try (with_reducible rfl))
    go_simp;refine wpAnyH_ready (rs:=[12]) (by kernel_rfl) (by simp) ?_;refine AllReadyH.cons rfl (fun K hK=>?_) AllReadyH.nil
    (obtain⟨cs,hcl,hcb⟩:=hSw.2;obtain⟨_,_,_,_,_,q0,q1,q2,q3,q4⟩:=bj2 hcb hcl;have z0:=hcb.free 4)
    go_simp;refine hK.out _ _ ⟨hSw.1.setCell _ (.inl (by simp)),_,by rw[List.length_set];exact hcl,hcb.store 4 _⟩ (fun hSn=>?_);clear hK K hSw;have hSw:=hSn;clear hSn;go_simp;refine wpAnyH_done (by kernel_rfl) ?_ _;have hb5:BoxO (((wr.setCell ⟨w.heap.size,2,none⟩ (.int .u64 (t:Int))).setCell ⟨w.heap.size,3,none⟩ (.int .u64 (v:Int))).setCell ⟨w.heap.size,4,none⟩ (.int .i64 (ry1 xv))).drew 36 w.heap.size [.int .i64 (s:Int),.int .i64 (kd:Int),.int .u64 (t:Int),.int .u64 (v:Int),.int .i64 (ry1 xv)]:=(((HBG2.out.store 2 _).store 3 _).store 4 _).drew;have hcs:=hSw.1;clear hSw;obtain⟨X,hX⟩:∃X,X=(((wr.setCell ⟨w.heap.size,2,none⟩ (.int .u64 (t:Int))).setCell ⟨w.heap.size,3,none⟩ (.int .u64 (v:Int))).setCell ⟨w.heap.size,4,none⟩ (.int .i64 (ry1 xv))).drew:=⟨_,rfl⟩;rw[←hX]at hb5 hcs ⊢;have q0:=hb5.cell 0;have q1:=hb5.cell 1;have q2:=hb5.cell 2;have q3:=hb5.cell 3;have q4:=hb5.cell 4;have z0:=hb5.free 0;have z1:=hb5.free 1;have z2:=hb5.free 2;have z3:=hb5.free 3;have z4:=hb5.free 4;simp only[gE0,gE1]at q0 q1 q2 q3 q4;have hbX:=HBW.out.trans (hcs.below HBW.out.size (fun g hg=>by rw[List.mem_singleton.1 hg];exact Nat.le_refl _));have hfin:=hbX.trans ((bq5 ⟨(s:Int),(kd:Int),t,v,ry1 xv⟩ hb5 rfl).2.below hbX.size (fun g hg=>by rw[List.mem_singleton.1 hg];exact Nat.le_refl _));have hrow:=HK.out.2.1;have HF:=Lib.hid (And.intro hrow (And.intro HK.out.2.2.2.2.1 (And.intro HK.out.2.2.1 (And.intro HK.out.2.2.2.1 hfin))));clear hb5 hcs hX hbX hfin hrow HBG2;go_wp2;rw[HR.out];refine bodyPost_ret (v:=.tuple #[(It.mk (s:Int) (kd:Int) t v (ry1 xv)).val,.slice A4 n c4,.int .i64 0]) (by simp[results,go_sem,It.val, *]) rfl ⟨A4,n,c4,rfl,HF.out⟩
end
end Go.Proofs.YthjdpplgfdihoaaGreatDoor
