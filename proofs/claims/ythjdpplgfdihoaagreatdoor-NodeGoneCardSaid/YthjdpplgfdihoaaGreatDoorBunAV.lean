/- Texts HasB, StateM, HiderA, RefS in one. No conditions. -/
import Derived.Test.YthjdpplgfdihoaaGreatDoorBunAT

set_option linter.unusedSimpArgs false
set_option linter.unusedVariables false
set_option maxRecDepth 100000
set_option maxHeartbeats 16000000
namespace Go.Proofs.YthjdpplgfdihoaaGreatDoor
section
open Go Go.RowKit Go.Lib
def HsAt (w:World) (g b:Nat) (M:List It):Prop:=(∃B,B≤1000000∧MpAt w b M B)∧BoxO w 254 g [.map (some b)]
theorem MpAt.below {w w':World} {b B:Nat} {M:List It} (h:MpAt w b M B) (hb:Below w.heap.size w w'):MpAt w' b M B:=by
 obtain⟨es,clock,h1,h2⟩:=h;exact⟨es,clock,(hb.block b (w_.1 h1).1).trans h1,h2⟩
theorem HsAt.below {w w':World} {g b:Nat} {M:List It} (h:HsAt w g b M) (hb:Below w.heap.size w w'):HsAt w' g b M:=⟨let ⟨B,h1,h2⟩:=h.1;⟨B,h1,h2.below hb⟩,h.2.below hb⟩
theorem px4 (x:It) (g b:Nat) (M:List It) (w:World) (h:HsAt w g b M):Calls Tryz.prog 194 #[x.val,.pointer (some ⟨g,0,none⟩)] w fun e w'=>e=.returned (.bool (decide (x∈M)))∧Below w.heap.size w w':=by
 obtain⟨⟨B,hB,hm⟩,hb⟩:=h;have hm2:=hm.below (b_ w (.cells #[.int .i64 x.s,.int .i64 x.k,.int .u64 (x.t:Int),.int .u64 (x.v:Int),.int .i64 x.x] 36));obtain⟨c,c1,c2,c3⟩:=hm2.look x;have c0:=(hb.alloc (.cells #[.int .i64 x.s,.int .i64 x.k,.int .u64 (x.t:Int),.int .u64 (x.v:Int),.int .i64 x.x] 36)).c0;have hbz:=b_ w (.cells #[.int .i64 x.s,.int .i64 x.k,.int .u64 (x.t:Int),.int .u64 (x.v:Int),.int .i64 x.x] 36);rw[←c2];have hdc:decide ((0:Int) < (c:Int))=decide (0 < c):=by simp
 unfold It.val at *;clear hm hm2 hb c2;go_enter Tryz.func194,Tryz.ntmps194;go_wp2;go_ret;exact⟨by simp,hbz⟩
theorem grown_drew (w:World) (r:Option Nat):w.grownBy w.drew r:=⟨rfl,rfl,rfl,x_ _,fun _ _ _=>rfl⟩
theorem kv1 {w w1 w2:World} {b:Nat} (h:w.grownBy w1 (some b)) (k:w1.grownBy w2 (some b)):w.grownBy w2 (some b):=⟨k.os.trans h.os,k.tape.trans h.tape,k.output.trans h.output,h_ h.size k.size,fun g hg hne=>(k.block g (L_ hg h.size) hne).trans (h.block g hg hne)⟩
theorem rj2 {w wr W1 W2:World} {k:Nat} {l:List It} {x:It} (hw:W1=wr.alloc (.cells #[.int .i64 x.s,.int .i64 x.k,.int .u64 (x.t:Int),.int .u64 (x.v:Int),.int .i64 x.x] 36)) (hm:MpAt W2 w.heap.size (l.take k++[x]) (k+1)) (hg:W1.grownBy W2 (some w.heap.size)) (hb:BoxO wr 254 (w.heap.size+1) [.map (some w.heap.size)]∧Below w.heap.size w wr) (ht:l.take (k+1)=l.take k++[x]):
  MpAt W2 w.heap.size (l.take (k+1)) (k+1)∧BoxO W2 254 (w.heap.size+1) [.map (some w.heap.size)]∧Below w.heap.size w W2:=by
 subst hw;refine⟨by rw[ht];exact hm,(hb.1.alloc _).tv1 hg (by simp),?_⟩;exact(hb.2.alloc hb.2.size _).grown hg (by rw[A_];have:=hb.2.size;omega) (fun g e=>by cases e;exact x_ _)
theorem kz43 {P S a oi v} (h:Hv P S a oi v:=by intro w' hSw;obtain⟨m0,d0,d1,d2,d3,d4⟩:=HC.out w' hSw;go_simp;try (with_reducible rfl)):Hv P S a oi v:=h
theorem cq5 (A:Option Addr) (n c:Nat) (l:List It) (w:World) (hn:n≤1000000) (hr:Row w.heap.size w A n 5 (itc l)):
  Calls Tryz.prog 105 #[.slice A n c] w fun e w'=>∃g b,e=.returned (.func (.func 194) #[] #[.pointer (some ⟨g,0,none⟩)])∧HsAt w' g b l∧Below w.heap.size w w':=by
 have hnn:=hr.uz;have hmk:=@run_makeMap Tryz.prog;have h0:MpAt ((w.alloc (.map #[] 0)).alloc (.cells #[.map (some w.heap.size)] 254)) w.heap.size [] 0:=by
  refine⟨#[],0,?_,fun e he=>by simp at he,fun y hy=>by simp at hy⟩;rw[Below.heap_alloc _ _ _ (by simp),bs_]
 have hb0:BoxO ((w.alloc (.map #[] 0)).alloc (.cells #[.map (some w.heap.size)] 254)) 254 (w.heap.size+1) [.map (some w.heap.size)]:=by
  have h1:=BoxO.new (w.alloc (.map #[] 0)) #[.map (some w.heap.size)] 254;rw[A_]at h1;exact h1
 have hl0:Below w.heap.size w ((w.alloc (.map #[] 0)).alloc (.cells #[.map (some w.heap.size)] 254)):=
  ((Below.refl _ w).alloc l_ _).alloc (by simp) _
 have HH:=H_ (d_ h0 (d_ hb0 hl0));have HNN:=H_ hnn;clear h0 hb0 hl0 hnn;go_enter Tryz.func105,Tryz.ntmps105;go_wp2
 go_loopw [9] (fun i wr=>∃k:Nat,k≤n∧i=.int .i64 (k:Int)∧Hid (MpAt wr w.heap.size (l.take k) k∧BoxO wr 254 (w.heap.size+1) [.map (some w.heap.size)]∧Below w.heap.size w wr)) (fun i _=>n - (intOf i).toNat)
 case atStart=>exact⟨0,t_ _,rfl,HH⟩
 case round=>
  obtain⟨k,hkn,rfl,HB⟩:=hrel
  by_cases hlt:k < n
  ·obtain⟨p,hl,rfl,hbk,e0,e1,e2,e3,e4⟩:=(hr.below HB.out.2.2).it hlt
   have hki:(k:Int) < (n:Int):=by omega
   have hwk:IntKind.i64.wrap (k:Int)=(k:Int):=F_ _ (by omega);have htk:l.take (k+1)=l.take k++[l[k]]:=o_ hl;generalize l[k]=x at *;have hbx:BoxO (wr.alloc (.cells #[.int .i64 x.s,.int .i64 x.k,.int .u64 (x.t:Int),.int .u64 (x.v:Int),.int .i64 x.x] 36)) 36 wr.heap.size x.cells:=BoxO.new wr #[.int .i64 x.s,.int .i64 x.k,.int .u64 (x.t:Int),.int .u64 (x.v:Int),.int .i64 x.x] 36;obtain⟨W1,hW1⟩:=n_ (wr.alloc (.cells #[.int .i64 x.s,.int .i64 x.k,.int .u64 (x.t:Int),.int .u64 (x.v:Int),.int .i64 x.x] 36));have hma0:MpAt W1 w.heap.size (l.take k) k:=by rw[hW1];exact HB.out.1.below ((Below.refl _ wr).alloc l_ _)
   have hma:MpAt W1.drew w.heap.size (l.take k) k:=hma0;have hbm:BoxO W1 254 (w.heap.size+1) [.map (some w.heap.size)]:=by rw[hW1];exact HB.out.2.1.alloc _
   rw[←hW1]at hbx;have hlt2:w.heap.size+1 < wr.heap.size:=HB.out.2.1.lt;obtain⟨g,hg⟩:=n_ wr.heap.size;have hcl:∀w',W1.grownBy w' (some w.heap.size)→w'.cell? ⟨w.heap.size+1,0,none⟩=some (.map (some w.heap.size))∧w'.cell? ⟨g,0,none⟩=some (.int .i64 x.s)∧w'.cell? ⟨g,1,none⟩=some (.int .i64 x.k)∧w'.cell? ⟨g,2,none⟩=some (.int .u64 (x.t:Int))∧w'.cell? ⟨g,3,none⟩=some (.int .u64 (x.v:Int))∧w'.cell? ⟨g,4,none⟩=some (.int .i64 x.x):=by
    intro w' hw';have h1:=(hbm.tv1 hw' (by simp)).cell 0;have h2:=hbx.tv1 hw' (by simp;omega);rw[←hg]at h2;exact⟨h1,h2.cell 0,h2.cell 1,h2.cell 2,h2.cell 3,h2.cell 4⟩
   have HC:=H_ hcl;have HMA:=H_ hma;have HW:=H_ hW1;have HB0:=H_ HB.out.2;have HT:=H_ htk;have HG:=H_ hg;clear hcl hma hma0 hW1 htk hbx hbm hg HB;go_wp2_with fail;rw[←HW.out,←HG.out];refine wp_region_held_drew (S:=fun w'=>W1.grownBy w' (some w.heap.size)) rfl (grown_drew _ _) (fun hSw=>?_);refine w_v 0 hSw ?_ (k:=kz43);go_simp;refine w_v 1 hSw ?_ (k:=kz43);go_simp;refine wpAnyH_ready (rs:=[2,4]) (by kernel_rfl) (by simp) ?_;refine AllReadyH.cons rfl (fun K hK=>?_) (AllReadyH.cons rfl (fun K hK=>?_) AllReadyH.nil)
   ·obtain⟨c,c1,_,c3⟩:=HMA.out.look x
    unfold It.val at c3;go_simp;refine hK.out _ _ hSw ?_;clear hSw hK K;intro hSw;clear c3;have hwc:IntKind.i64.wrap ((c:Int)+1)=((c+1:Nat):Int):=by rw[F_ _ (by omega)];omega
    go_simp;refine w_v 3 hSw ?_ (k:=kz43);go_simp;refine w_r 4 fun K hK=>?_;obtain⟨v0,st,o1,hme,hmid⟩:=HMA.out.entry x;have HMI:=H_ hmid;unfold It.val at hme;clear hmid;go_simp;refine hK.out _ _ (kv1 hSw (fj1 _ _ _)) ?_;clear hSw hK K;intro hSw;clear hme;go_simp;refine w_v 5 hSw ?_ (k:=kz43);go_simp;refine w_r 6 fun K hK=>?_;obtain⟨o2,hes,hmz⟩:=HMI.out.store (c+1) (by omega) (by omega);have HMZ:=H_ hmz;clear hmz;rw[show ((c+1:Nat):Int)=(c:Int)+1 from by omega]at hes;go_simp;refine hK.out _ _ (kv1 hSw (fj1 _ _ _)) ?_;clear hSw hK K;intro hSw;clear hes;go_simp;refine wpAnyH_done (by kernel_rfl) ?_ _;have HF:=H_ (rj2 HW.out HMZ.out hSw HB0.out HT.out);clear hSw;go_wp2;go_roundw
    case rel=>exact⟨k+1,by omega,by go_num,HF.out⟩
    case measure=>simp[intOf];omega
   ·obtain⟨v0,st,o1,hme,hmid⟩:=HMA.out.entry x
    have HMI:=H_ hmid;unfold It.val at hme;clear hmid;go_simp;refine hK.out _ _ (kv1 hSw (fj1 _ _ _)) ?_;clear hSw hK K;intro hSw;clear hme;go_simp;refine w_v 5 hSw ?_ (k:=kz43);go_simp;refine w_r 2 fun K hK=>?_;obtain⟨c,c1,c3⟩:=HMI.out.look x;unfold It.val at c3;go_simp;refine hK.out _ _ hSw ?_;clear hSw hK K;intro hSw;clear c3;have hwc:IntKind.i64.wrap ((c:Int)+1)=((c+1:Nat):Int):=by rw[F_ _ (by omega)];omega
    go_simp;refine w_v 3 hSw ?_ (k:=kz43);go_simp;refine w_r 6 fun K hK=>?_;obtain⟨o2,hes,hmz⟩:=HMI.out.store (c+1) (by omega) (by omega);have HMZ:=H_ hmz;clear hmz;rw[show ((c+1:Nat):Int)=(c:Int)+1 from by omega]at hes;go_simp;refine hK.out _ _ (kv1 hSw (fj1 _ _ _)) ?_;clear hSw hK K;intro hSw;clear hes;go_simp;refine wpAnyH_done (by kernel_rfl) ?_ _;have HF:=H_ (rj2 HW.out HMZ.out hSw HB0.out HT.out);clear hSw;go_wp2;go_roundw
    case rel=>exact⟨k+1,by omega,by go_num,HF.out⟩
    case measure=>simp[intOf];omega
  ·have hki:((k:Int) < (n:Int))=False:=eq_false (by omega)
   have hall:l.take k=l:=i_ (by have:=HNN.out;omega);have hb:=HB.out;rw[hall]at hb;have HF:=H_ hb;clear hb HB hall;go_wp2;go_ret;exact⟨w.heap.size+1,w.heap.size,rfl,⟨⟨k,by omega,HF.out.1⟩,HF.out.2.1⟩,HF.out.2.2⟩
end
section
open Go Go.RowKit Go.Lib
def upto (l:List It) (v:Nat):List It:=l.filter fun a=>decide (a.v≤v)
theorem fk4 (a:It) (v b:Nat) (w:World) (hc:w.cell? ⟨b,0,none⟩=some (.int .u64 (v:Int))):
  Calls Tryz.prog 125 (#[a.val] ++#[.pointer (some ⟨b,0,none⟩)]) w fun e w'=>e=.returned (.bool (decide (a.v≤v)))∧Below w.heap.size w w':=by
 have hb0:=b_ w (.cells #[.int .i64 a.s,.int .i64 a.k,.int .u64 (a.t:Int),.int .u64 (a.v:Int),.int .i64 a.x] 36);have hc1:∀o,(w.alloc o).cell? ⟨b,0,none⟩=some (.int .u64 (v:Int)):=fun o=>(af_ w o _ (V_ w _ hc)).trans hc;unfold It.val;go_enter Tryz.func125,Tryz.ntmps125;go_wp2;go_ret;exact⟨rfl,hb0⟩
theorem yk1 (A:Option Addr) (n c:Nat) (l:List It) (v:Nat) (w:World) (hn:n≤1000000) (hr:Row w.heap.size w A n 5 (itc l)):
  Calls Tryz.prog 58 #[.slice A n c,.int .u64 (v:Int)] w (cw1 w (upto l v)):=by
 have hbV:=b_ w (.cells #[.int .u64 (v:Int)] 22);have hbx:=BoxO.new w #[.int .u64 (v:Int)] 22;have ho:=ny2 125 (fun _ _=>rfl) #[.pointer (some ⟨w.heap.size,0,none⟩)] (fun a=>decide (a.v≤v)) A n c l (w.alloc (.cells #[.int .u64 (v:Int)] 22)) hn ((hr.below hbV).up hbV.size)
  (fun x w1 hw=>fk4 x v w.heap.size w1 (by rw[(hbx.below hw).cell];rfl))
 have HO:=H_ ho;unfold upto;clear ho hr hbx;go_enter Tryz.func58,Tryz.ntmps58;go_wp2_with fail;refine HO.out.mono ?_;rintro e w1 ⟨A1,k,rfl,h1,h2,h3⟩;have H:=H_ (show cw1 w (l.filter fun a=>decide (a.v≤v)) (.returned (.slice A1 k k)) w1 from ⟨A1,k,rfl,h1,⟨h2.row,h2.nc,h2.cm,fun p hp=>h_ hbV.size (h2.low p hp)⟩,az hbV h3⟩);clear h1 h2 h3 HO hbV;go_wp2;go_ret;exact H.out
theorem kz41 {P S a oi v} (h:Hv P S a oi v:=by intro w hSw;(obtain⟨⟨c0,c1,c2,c3,c4⟩,d0,d1,d2,d3,d4⟩:=KC.out w hSw);go_simp;try (with_reducible rfl)):Hv P S a oi v:=h
theorem kz42 {P S a oi v} (h:Hv P S a oi v:=by intro w hSw;(obtain⟨⟨c0,c1,c2,c3,c4⟩,d0,d1,d2,d3,d4⟩:=KC.out w hSw;have hif:=HIF.out);go_simp;try (with_reducible rfl)):Hv P S a oi v:=h
theorem ox3 (A:Option Addr) (n c:Nat) (a:List It) (B:Option Addr) (m d:Nat) (b:List It) (w:World) (hn:n≤1000000) (hm:m≤1000000) (ra:Row w.heap.size w A n 5 (itc a)) (rb:Row w.heap.size w B m 5 (itc b)):
  Calls Tryz.prog 204 #[.slice A n c,.slice B m d] w fun e w'=>e=.returned (.bool (decide (a=b)))∧Below w.heap.size w w':=by
 have hna:=ra.uz;have hmb:=rb.uz;obtain⟨r,hr⟩:=n_ (decide (a=b));rw[←hr]
 by_cases hnm:n=m
 ·subst hnm
  have HR:=H_ hr;clear hr;go_enter Tryz.func204,Tryz.ntmps204;go_wp2
  go_loopw [13] (fun i wr=>∃k:Nat,k≤n∧i=.int .i64 (k:Int)∧Hid (a.take k=b.take k)∧Below w.heap.size w wr) (fun i _=>n - (intOf i).toNat)
  case atStart=>exact⟨0,t_ _,rfl,H_ rfl,Below.refl _ _⟩
  case round=>
   obtain⟨k,hk,rfl,HE,hbl⟩:=hrel
   by_cases hlt:k < n
   ·obtain⟨p,hl,rfl,hbk,hd⟩:=(ra.below hbl).it hlt
    obtain⟨p2,hl2,rfl,hbk2,hd2⟩:=(rb.below hbl).it hlt;have hte:a.take (k+1)=a.take k++[a[k]]:=o_ hl;have htf:b.take (k+1)=b.take k++[b[k]]:=o_ hl2;have hne:a[k]≠b[k]→a≠b:=fun h e=>by subst e;exact h rfl
    generalize a[k]=x at *;generalize b[k]=y at *;have hnq:=wj4 x y;have hkc:∀w',Below wr.heap.size wr w'→(w'.cell? (p.add (k *5))=some (.int .i64 x.s)∧w'.cell? ⟨(p.add (k *5)).block,(p.add (k *5)).off+1,none⟩=some (.int .i64 x.k)∧w'.cell? ⟨(p.add (k *5)).block,(p.add (k *5)).off+2,none⟩=some (.int .u64 (x.t:Int))∧w'.cell? ⟨(p.add (k *5)).block,(p.add (k *5)).off+3,none⟩=some (.int .u64 (x.v:Int))∧w'.cell? ⟨(p.add (k *5)).block,(p.add (k *5)).off+4,none⟩=some (.int .i64 x.x))∧w'.cell? (p2.add (k *5))=some (.int .i64 y.s)∧w'.cell? ⟨(p2.add (k *5)).block,(p2.add (k *5)).off+1,none⟩=some (.int .i64 y.k)∧w'.cell? ⟨(p2.add (k *5)).block,(p2.add (k *5)).off+2,none⟩=some (.int .u64 (y.t:Int))∧w'.cell? ⟨(p2.add (k *5)).block,(p2.add (k *5)).off+3,none⟩=some (.int .u64 (y.v:Int))∧w'.cell? ⟨(p2.add (k *5)).block,(p2.add (k *5)).off+4,none⟩=some (.int .i64 y.x):=fun w' hb=>by
     have h1:=hd.below (B:=wr.heap.size) (w':=w') (L_ hbk hbl.size) hb;have h2:=hd2.below (B:=wr.heap.size) (w':=w') (L_ hbk2 hbl.size) hb;exact⟨⟨h1.c0,h1.c1,h1.c2,h1.c3,h1.c4⟩,h2.c0,h2.c1,h2.c2,h2.c3,h2.c4⟩
    have KC:=H_ hkc;have HNE:=H_ hne;have HT:=H_ (d_ hte htf);have hwk:IntKind.i64.wrap (k:Int)=(k:Int):=F_ _ (by omega);have hkn:(k:Int) < (n:Int):=by omega
    clear hkc hne hte htf hd hd2 hnq
    by_cases hxy:x=y
    ·have H1:=H_ (show a.take (k+1)=b.take (k+1) by rw[HT.out.1,HT.out.2,HE.out,hxy])
     subst hxy;go_wp2_with fail;refine wp_region_held_drew (S:=fun w'=>Below wr.heap.size wr w') rfl (ak b0_) (fun hSw=>?_);refine w_v 0 hSw ?_ (k:=kz41);go_simp;refine w_v 1 hSw ?_ (k:=kz41);go_simp;refine w_v 2 hSw ?_ (k:=kz41);go_simp;refine w_v 3 hSw ?_ (k:=kz41);go_simp;refine w_v 4 hSw ?_ (k:=kz41);go_simp;refine w_v 5 hSw ?_ (k:=kz41);go_simp;refine w_v 6 hSw ?_ (k:=kz41);go_simp;refine w_v 7 hSw ?_ (k:=kz41);go_simp;refine w_v 8 hSw ?_ (k:=kz41);go_simp;refine wpAnyH_done (by kernel_rfl) ?_ _;have hby:=hbl.trans (hSw.mono hbl.size);clear hSw KC;go_wp2;go_roundw
     case rel=>exact⟨k+1,by omega,by go_num,H1.out,hby⟩
     case measure=>simp[intOf];omega
    ·have hrf:r=false:=by
      rw[HR.out];simpa using HNE.out hxy
     have H1:=H_ hrf;have HIF:=H_ (fun(α:Type) (A B:α)=>ik5 hxy A B);clear hrf hxy;go_wp2_with fail;refine wp_region_held_drew (S:=fun w'=>Below wr.heap.size wr w') rfl (ak b0_) (fun hSw=>?_);refine w_v 0 hSw ?_ (k:=kz42);go_simp;refine w_v 1 hSw ?_ (k:=kz42);go_simp;refine w_v 2 hSw ?_ (k:=kz42);go_simp;refine w_v 3 hSw ?_ (k:=kz42);go_simp;refine w_v 4 hSw ?_ (k:=kz42);go_simp;refine w_v 5 hSw ?_ (k:=kz42);go_simp;refine w_v 6 hSw ?_ (k:=kz42);go_simp;refine w_v 7 hSw ?_ (k:=kz42);go_simp;refine w_v 8 hSw ?_ (k:=kz42);go_simp;refine wpAnyH_done (by kernel_rfl) ?_ _;have hby:=hbl.trans (hSw.mono hbl.size);clear hSw KC;go_wp2;go_ret;exact⟨gy H1.out.symm,hby⟩
   ·have hall:r=true:=by
     have:=HE.out;rw[i_ (by omega),i_ (by omega)]at this;rw[HR.out,this];simp
    have H1:=H_ hall;clear hall;go_wp2;go_ret;exact⟨gy H1.out.symm,hbl⟩
 ·have hne:r=false:=by
   rw[hr];have:a≠b:=fun e=>hnm (by rw[←hna,←hmb,e]);simpa using this
  have e1:((n:Int)==(m:Int))=false:=by rw[beq_eq_false_iff_ne];omega
  have H1:=H_ hne;clear hne hr;go_enter Tryz.func204,Tryz.ntmps204;go_wp2;go_ret;exact⟨gy H1.out.symm,Below.refl _ _⟩
theorem xv2 (A:Option Addr) (n c:Nat) (a:List It) (B:Option Addr) (m d:Nat) (b:List It) (w:World) (hn:n≤1000000) (hm:m≤1000000) (ra:Row w.heap.size w A n 5 (itc a)) (rb:Row w.heap.size w B m 5 (itc b)):
  Calls Tryz.prog 120 #[.slice A n c,.slice B m d] w fun e w'=>e=.returned (.bool (decide (a=b)))∧Below w.heap.size w w':=by
 have HE:=H_ (ox3 A n c a B m d b w hn hm ra rb);clear ra rb;go_enter Tryz.func120,Tryz.ntmps120;go_wp2_with fail;refine HE.out.mono ?_;rintro e w1 ⟨rfl,h1⟩;go_wp2;go_ret;exact⟨rfl,h1⟩
end
section
open Go Go.RowKit Go.Lib
def Mx (l:List It) (s:Int) (v:Nat):Prop:=(∃t∈l,t.k=1∧t.s=s∧t.v=v)∧∀t∈l,t.k=1→t.s=s→t.v≤v
def TmI (es:List MapEntry) (l:List It):Prop:=(∀e∈es,∃(s:Int) (v:Nat),e.key=.int .i64 s∧e.val=.int .u64 (v:Int)∧Mx l s v)∧(∀t∈l,t.k=1→∃e∈es,e.key=.int .i64 t.s)∧es.Pairwise fun a b=>a.key≠b.key
def TmAt (w:World) (b:Nat) (l:List It):Prop:=∃es clock,w.heap[b]?=some (.map es clock)∧TmI es.toList l
variable {w w':World} {b:Nat} {l:List It}
theorem TmAt.below (h:TmAt w b l) (hb:Below w.heap.size w w'):TmAt w' b l:=by
 obtain⟨es,clock,h1,h2⟩:=h;exact⟨es,clock,(hb.block b (w_.1 h1).1).trans h1,h2⟩
theorem TmAt.look (h:TmAt w b l) (s:Int):∃(v:Nat) (ok:Bool),(Instr.lookup 380 (.map (some b)) (.int .i64 s) false).run Tryz.prog w=.ok (.int .u64 (v:Int)) w∧(Instr.lookup 380 (.map (some b)) (.int .i64 s) true).run Tryz.prog w=.ok (.tuple #[.int .u64 (v:Int),.bool ok]) w∧
  (ok=true→Mx l s v)∧(ok=false→v=0∧∀t∈l,t.k=1→t.s≠s):=by
 obtain⟨es,clock,hb,h1,h2,_⟩:=h;have ht:Tryz.prog.underlying 380=some (.map 3 22):=by kernel_rfl
 have hd:Tryz.prog.underlying 3=some (.int .i64):=by kernel_rfl
 have hz:(zeroValue 22).run Tryz.prog w=.ok (.int .u64 0) w:=by kernel_rfl
 have hck:=MapKept.run_checkKey (w:=w) hd (k:=.int .i64 s) rfl es.isEmpty 9999
 rcases MapKept.findNow_spec (d:=.int .i64) (k:=.int .i64 s) rfl es.toList 0 (fun e he=>by obtain⟨s',v,hk,_⟩:=h1 e he;rw[hk];exact rfl) with ⟨k1,k2⟩|⟨j,e,k1,k2,k3⟩
 ·have hfk:=MapKept.run_findKey (w:=w) hd k1
  refine⟨0,false,?_,?_,by simp,fun _=>⟨rfl,fun t htl htk hs=>?_⟩⟩
  ·simp[Instr.lookup,run_underlying ht,MapKept.run_getObj_map hb,hck,hfk,hz]
  ·simp[Instr.lookup,run_underlying ht,MapKept.run_getObj_map hb,hck,hfk,hz]
  ·obtain⟨e,he,hk⟩:=h2 t htl htk
   exact k2 e he (by rw[hk,hs])
 ·have hfk:=MapKept.run_findKey (w:=w) hd k1
  obtain⟨s',v,e1,e2,e3⟩:=h1 e (p_ k2);rw[k3]at e1;injection e1 with _ e1;subst e1;refine⟨v,true,?_,?_,fun _=>e3,by simp⟩
  ·simp[Instr.lookup,run_underlying ht,MapKept.run_getObj_map hb,hck,hfk,e2]
  ·simp[Instr.lookup,run_underlying ht,MapKept.run_getObj_map hb,hck,hfk,e2]
theorem Mx.more {s:Int} {v:Nat} (h:Mx l s v) {x:It} (hx:x.k=1→x.s≠s):Mx (l++[x]) s v:=by
 obtain⟨⟨t,h1,h2⟩,h3⟩:=h;refine⟨⟨t,s_ _ h1,h2⟩,fun u hu hk hs=>?_⟩
 rcases q_.1 hu with q|q
 ·exact h3 u q hk hs
 ·rw[c_.1 q]at hk hs
  exact absurd hs (hx hk)
theorem TmAt.skip (h:TmAt w b l) {x:It} (hx:x.k≠1):TmAt w b (l++[x]):=by
 obtain⟨es,clock,hb,h1,h2,h3⟩:=h;refine⟨es,clock,hb,fun e he=>?_,fun t ht hk=>?_,h3⟩
 ·obtain⟨s,v,e1,e2,e3⟩:=h1 e he
  exact⟨s,v,e1,e2,e3.more fun h=>absurd h hx⟩
 ·rcases q_.1 ht with q|q
  ·exact h2 t q hk
  ·rw[c_.1 q]at hk
   exact absurd hk hx
theorem TmAt.put (h:TmAt w b l) (x:It) (hx:x.k=1) (v0:Nat) (ok:Bool) (h1:ok=true→Mx l x.s v0) (h0:ok=false→v0=0∧∀t∈l,t.k=1→t.s≠x.s):
  ∃o:Obj,(Instr.mapUpdate 380 (.map (some b)) (.int .i64 x.s) (.int .u64 (max (v0:Int) (x.v:Int)))).run Tryz.prog w=.ok () (putB w b o)∧TmAt (putB w b o) b (l++[x]):=by
 obtain⟨es,clock,hb,k1,k2,k3⟩:=h;have hlt:=(w_.1 hb).1;have ht:Tryz.prog.underlying 380=some (.map 3 22):=by kernel_rfl
 have hd:Tryz.prog.underlying 3=some (.int .i64):=by kernel_rfl
 have hik:MapKept.IsKey (.int .i64) (.int .i64 x.s):=rfl;have hck:=MapKept.run_checkKey (w:=w) hd hik;have hm:Mx (l++[x]) x.s (max v0 x.v):=by
  refine⟨?_,fun t ht hk hs=>?_⟩
  ·rcases Nat.le_total v0 x.v with q|q
   ·exact⟨x,by simp,hx,rfl,by omega⟩
   ·cases ok with
    |true=>
     obtain⟨⟨t,t1,t2,t3,t4⟩,_⟩:=h1 rfl;exact⟨t,s_ _ t1,t2,t3,by omega⟩
    |false=>exact⟨x,by simp,hx,rfl,by have:=(h0 rfl).1;omega⟩
  ·rcases q_.1 ht with q|q
   ·cases ok with
    |true=>have:=(h1 rfl).2 t q hk hs;omega
    |false=>exact absurd hs ((h0 rfl).2 t q hk)
   ·rw[c_.1 q]
    omega
 have hcast:max (v0:Int) (x.v:Int)=((max v0 x.v:Nat):Int):=by omega
 rw[hcast];generalize max v0 x.v=vm at *
 rcases MapKept.findNow_spec (d:=.int .i64) hik es.toList 0 (fun e he=>by obtain⟨s',v,hk,_⟩:=k1 e he;rw[hk];exact rfl) with ⟨q1,q2⟩|⟨j,e,q1,q2,q3⟩
 ·have hfk:=MapKept.run_findKey (w:=w) hd q1
  refine⟨.map (es.push ⟨.int .i64 x.s,.int .u64 (vm:Int),clock⟩) (clock+1),by simp[Instr.mapUpdate,run_underlying ht,MapKept.run_getObj_map hb,hck,hfk,MapKept.run_setObj_map _ hb],_,_,jq1 hlt,fun e he=>?_,fun t ht hk=>?_,?_⟩
  ·simp only[a1_,q_,c_]at he
   rcases he with he|rfl
   ·obtain⟨s,v,e1,e2,e3⟩:=k1 e he
    exact⟨s,v,e1,e2,e3.more fun _ hs=>q2 e he (by rw[e1,hs])⟩
   ·exact⟨x.s,vm,rfl,rfl,hm⟩
  ·simp only[a1_]
   rcases q_.1 ht with q|q
   ·obtain⟨e,he,hk⟩:=k2 t q hk
    exact⟨e,s_ _ he,hk⟩
   ·rw[c_.1 q]
    exact⟨_,k_ _ (c_.2 rfl),rfl⟩
  ·simp only[a1_]
   exact ba_.2 ⟨k3,List.pairwise_singleton _ _,fun a ha c hc=>by rw[c_.1 hc];exact q2 a ha⟩
 ·have hfk:=MapKept.run_findKey (w:=w) hd q1
  have hj:es[j]?=some e:=by simpa using q2
  have hks:(Instr.keyThatStays (.int .i64 x.s) (.int .i64 x.s)).run Tryz.prog w=.ok (.int .i64 x.s) w:=MapKept.run_keyThatStays hik;have hget:∀i:Nat,(es.modify j fun e=>{ e with key:=.int .i64 x.s,val:=.int .u64 (vm:Int) }).toList[i]?=if j=i then some { e with key:=.int .i64 x.s,val:=.int .u64 (vm:Int) } else es.toList[i]?:=fun i=>by
   rw[bC_,a9_]
   by_cases hij:j=i
   ·subst hij
    rw[q2];simp
   ·simp[hij]
  refine⟨.map (es.modify j fun e=>{ e with key:=.int .i64 x.s,val:=.int .u64 (vm:Int) }) clock,by simp[Instr.mapUpdate,run_underlying ht,MapKept.run_getObj_map hb,hck,hfk,hj,q3,hks,MapKept.run_setObj_map _ hb],_,_,jq1 hlt,fun e' he=>?_,fun t ht hk=>?_,?_⟩
  ·obtain⟨i,hi⟩:=br_ he
   rw[hget]at hi
   by_cases hij:j=i
   ·rw[if_pos hij]at hi
    injection hi with hi;subst hi;exact⟨x.s,vm,rfl,rfl,hm⟩
   ·rw[if_neg hij]at hi
    obtain⟨s,v,e1,e2,e3⟩:=k1 e' (p_ hi);refine⟨s,v,e1,e2,e3.more fun _ hs=>?_⟩;obtain⟨hj',ej⟩:=G_.1 q2;obtain⟨hi',ei⟩:=G_.1 hi;have hne:e.key≠e'.key:=by
     rw[←ej,←ei]
     rcases b1_ hij with q|q
     ·exact ai_.1 k3 j i hj' hi' q
     ·exact(ai_.1 k3 i j hi' hj' q).symm
    exact hne (by rw[q3,e1,hs])
  ·have hex:∀s,(∃e∈es.toList,e.key=.int .i64 s)→∃e'∈(es.modify j fun e=>{ e with key:=.int .i64 x.s,val:=.int .u64 (vm:Int) }).toList,e'.key=.int .i64 s:=fun s ⟨e',he',hk'⟩=>by
    obtain⟨i,hi⟩:=br_ he'
    by_cases hij:j=i
    ·refine⟨_,p_ (i:=i) ((hget i).trans (if_pos hij)),?_⟩
     subst hij;rw[q2]at hi;have hi:=ap_ hi;exact q3.symm.trans ((congrArg MapEntry.key hi).trans hk')
    ·exact⟨e',p_ (i:=i) ((hget i).trans ((if_neg hij).trans hi)),hk'⟩
   refine hex _ ?_
   rcases q_.1 ht with q|q
   ·exact k2 t q hk
   ·rw[c_.1 q]
    exact⟨e,p_ q2,q3⟩
  ·refine ai_.2 fun a c ha hc hac=>?_
   have hka:∀i (hi:i < (es.modify j fun e=>{ e with key:=.int .i64 x.s,val:=.int .u64 (vm:Int) }).toList.length),∃h:i < es.toList.length,((es.modify j fun e=>{ e with key:=.int .i64 x.s,val:=.int .u64 (vm:Int) }).toList[i]).key=(es.toList[i]).key:=fun i hi=>by
    have h1:i < es.toList.length:=by simpa using hi
    refine⟨h1,?_⟩;have h2:=hget i;rw[j_ hi]at h2
    by_cases hij:j=i
    ·rw[if_pos hij]at h2
     have h2:=ap_ h2;refine(congrArg MapEntry.key h2).trans ?_;subst hij;obtain⟨_,ej⟩:=G_.1 q2;rw[ej];exact q3.symm
    ·rw[if_neg hij,j_ h1]at h2
     have h2:=ap_ h2;exact congrArg MapEntry.key h2
   obtain⟨a1,a2⟩:=hka a ha;obtain⟨c1,c2⟩:=hka c hc;rw[a2,c2];exact ai_.1 k3 a c a1 c1 hac
def HdAt (w:World) (g b:Nat) (l:List It):Prop:=TmAt w b l∧BoxO w 380 g [.map (some b)]
theorem iw5 {x:It} (h:∀t∈l,t.k=1→t.s≠x.s):hidden l x=false:=by
 unfold hidden;rw[S_];intro t ht;unfold It.hides
 by_cases hk:t.k=1
 ·simp[hk,h t ht hk]
 ·simp[hk]
theorem fz5 {x:It} {v:Nat} (h:Mx l x.s v):hidden l x=(x.k==2&&decide (x.v≤v)):=by
 obtain⟨⟨t,t1,t2,t3,t4⟩,h2⟩:=h;unfold hidden
 by_cases hk:x.k=2
 ·by_cases hv:x.v≤v
  ·rw[show (x.k==2&&decide (x.v≤v))=true by simp[hk,hv]]
   exact aO_.2 ⟨t,t1,by simp[It.hides,t2,t3,hk,t4,hv]⟩
  ·rw[show (x.k==2&&decide (x.v≤v))=false by simp[hv],S_]
   intro u hu;unfold It.hides
   by_cases h3:u.k=1
   ·by_cases h4:u.s=x.s
    ·have:=h2 u hu h3 h4
     have h5:¬x.v≤u.v:=by omega
     simp[h5]
    ·simp[h4]
   ·simp[h3]
 ·rw[show (x.k==2&&decide (x.v≤v))=false by simp[hk],S_]
  intro u hu;simp[It.hides,hk]
theorem pz3 (x:It) (g b:Nat) (l:List It) (w:World) (h:HdAt w g b l):Calls Tryz.prog 319 #[x.val,.pointer (some ⟨g,0,none⟩)] w fun e w'=>e=.returned (.bool (hidden l x))∧Below w.heap.size w w':=by
 obtain⟨hm,hb⟩:=h;obtain⟨s1,k1,t1,v1,x1⟩:=x;have hm2:=hm.below (b_ w (.cells #[.int .i64 s1,.int .i64 k1,.int .u64 (t1:Int),.int .u64 (v1:Int),.int .i64 x1] 36));obtain⟨v,ok,_,c2,c3,c4⟩:=hm2.look s1;have c0:=(hb.alloc (.cells #[.int .i64 s1,.int .i64 k1,.int .u64 (t1:Int),.int .u64 (v1:Int),.int .i64 x1] 36)).c0;have hbz:=b_ w (.cells #[.int .i64 s1,.int .i64 k1,.int .u64 (t1:Int),.int .u64 (v1:Int),.int .i64 x1] 36);obtain⟨r,hr⟩:=n_ (hidden l ⟨s1,k1,t1,v1,x1⟩);rw[←hr];unfold It.val;simp only;clear hm hm2 hb
 cases ok with
 |false=>
  have HB:=H_ (hr.trans (iw5 (c4 rfl).2));clear hr c3 c4;go_enter Tryz.func319,Tryz.ntmps319;go_wp2;go_ret;exact⟨gy HB.out.symm,hbz⟩
 |true=>
  have hr2:=hr.trans (fz5 (c3 rfl));clear hr c3 c4
  by_cases hk:k1=2
  ·subst hk
   by_cases hv:(v1:Int)≤(v:Int)
   ·have HB:=H_ (hr2.trans (show _=true by simp;omega))
    clear hr2;go_enter Tryz.func319,Tryz.ntmps319;go_wp2;go_ret;exact⟨gy HB.out.symm,hbz⟩
   ·have HB:=H_ (hr2.trans (show _=false by simp;omega))
    clear hr2;go_enter Tryz.func319,Tryz.ntmps319;go_wp2;go_ret;exact⟨gy HB.out.symm,hbz⟩
  ·have HB:=H_ (hr2.trans (show _=false by simp[hk]))
   have e1:(k1==2)=false:=by simpa using hk
   clear hr2;go_enter Tryz.func319,Tryz.ntmps319;go_wp2;go_ret;exact⟨gy HB.out.symm,hbz⟩
theorem uv3 (A:Option Addr) (n c:Nat) (l:List It) (w:World) (hn:n≤1000000) (hr:Row w.heap.size w A n 5 (itc l)):
  Calls Tryz.prog 268 #[.slice A n c] w fun e w'=>∃g b,e=.returned (.func (.func 319) #[] #[.pointer (some ⟨g,0,none⟩)])∧HdAt w' g b l∧(w.heap.size≤g∧w.heap.size≤b)∧Below w.heap.size w w':=by
 have hnn:=hr.uz;have hmk:=@run_makeMap Tryz.prog;have h0:TmAt ((w.alloc (.map #[] 0)).alloc (.cells #[.map (some w.heap.size)] 380)) w.heap.size []:=by
  refine⟨#[],0,?_,fun e he=>by simp at he,fun y hy=>by simp at hy,bo_⟩;rw[Below.heap_alloc _ _ _ (by simp),bs_]
 have hb0:BoxO ((w.alloc (.map #[] 0)).alloc (.cells #[.map (some w.heap.size)] 380)) 380 (w.heap.size+1) [.map (some w.heap.size)]:=by
  have h1:=BoxO.new (w.alloc (.map #[] 0)) #[.map (some w.heap.size)] 380;rw[A_]at h1;exact h1
 have hl0:Below w.heap.size w ((w.alloc (.map #[] 0)).alloc (.cells #[.map (some w.heap.size)] 380)):=
  ((Below.refl _ w).alloc l_ _).alloc (by simp) _
 have HH:=H_ (d_ h0 (d_ hb0 hl0));have HNN:=H_ hnn;clear h0 hb0 hl0 hnn;go_enter Tryz.func268,Tryz.ntmps268;go_wp2
 go_loopw [9] (fun i wr=>∃k:Nat,k≤n∧i=.int .i64 (k:Int)∧Hid (TmAt wr w.heap.size (l.take k)∧BoxO wr 380 (w.heap.size+1) [.map (some w.heap.size)]∧Below w.heap.size w wr)) (fun i _=>n - (intOf i).toNat)
 case atStart=>exact⟨0,t_ _,rfl,HH⟩
 case round=>
  obtain⟨k,hkn,rfl,HB⟩:=hrel
  by_cases hlt:k < n
  ·obtain⟨p,hl,rfl,hbk,e0,e1,e2,e3,e4⟩:=(hr.below HB.out.2.2).it hlt
   have hki:(k:Int) < (n:Int):=by omega
   have htk:l.take (k+1)=l.take k++[l[k]]:=o_ hl;generalize l[k]=x at *;obtain⟨h1,h2,h3⟩:=HB.out;have hbw:=b_ wr (.cells #[.int .i64 x.s,.int .i64 x.k,.int .u64 (x.t:Int),.int .u64 (x.v:Int),.int .i64 x.x] 36);have h1':=h1.below hbw;have h2':=h2.alloc (.cells #[.int .i64 x.s,.int .i64 x.k,.int .u64 (x.t:Int),.int .u64 (x.v:Int),.int .i64 x.x] 36);have h3':=az h3 hbw;have m0:=h2'.c0
   by_cases hx:x.k=1
   ·have hxe:(x.k==1)=true:=by simpa using hx
    obtain⟨v,ok,c1,_,c3,c4⟩:=h1'.look x.s;obtain⟨o,c5,h4⟩:=h1'.put x hx v ok c3 c4;rw[←htk]at h4;have hgr:=fj1 (wr.alloc (.cells #[.int .i64 x.s,.int .i64 x.k,.int .u64 (x.t:Int),.int .u64 (x.v:Int),.int .i64 x.x] 36)) w.heap.size o;clear hx;have HN:=H_ (d_ h4 (d_ (h2'.tv1 hgr (by simp)) (h3'.grown hgr (by have:=h3'.size;omega) (fun g e=>by cases e;exact x_ _))));clear h4 hgr h1 h1' h2 h2' h3 h3' hbw htk c3 c4 HB;go_wp2;go_roundw
    case rel=>exact⟨k+1,by omega,by go_num,HN⟩
    case measure=>simp[intOf];omega
   ·have hxe:(x.k==1)=false:=by simpa using hx
    have HN:=H_ (d_ (htk▸h1'.skip hx) (d_ h2' h3'));clear h1 h1' h2 h2' h3 h3' hbw htk HB;go_wp2;go_roundw
    case rel=>exact⟨k+1,by omega,by go_num,HN⟩
    case measure=>simp[intOf];omega
  ·have hki:((k:Int) < (n:Int))=False:=eq_false (by omega)
   have hall:l.take k=l:=i_ (by have:=HNN.out;omega);have hb:=HB.out;rw[hall]at hb;have HF:=H_ hb;clear hb HB hall;go_wp2;go_ret;exact⟨w.heap.size+1,w.heap.size,rfl,⟨HF.out.1,HF.out.2.1⟩,⟨by omega,x_ _⟩,HF.out.2.2⟩
end
section
open Go Go.RowKit Go.Lib
end
end Go.Proofs.YthjdpplgfdihoaaGreatDoor
