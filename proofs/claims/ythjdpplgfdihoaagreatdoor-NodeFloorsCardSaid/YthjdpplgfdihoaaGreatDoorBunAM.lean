/- Texts EditJ, BloomB, TableA, PlainFit, TableB, ManH, Fixed, ManD, EditK, ManI, ManE, ManF, ManG, ManJ in one. No conditions. -/
import Derived.Test.YthjdpplgfdihoaaGreatDoorBunAA
import Derived.Test.YthjdpplgfdihoaaGreatDoorBunAL
import Derived.Test.YthjdpplgfdihoaaGreatDoorBunAK
import Derived.Deep.RegionLaw
import Derived.Deep.RegionHeld3
import Derived.StillTailTactics
import Derived.Test.YthjdpplgfdihoaaGreatDoorBunAE
import Derived.Test.YthjdpplgfdihoaaGreatDoorBunAJ
import Derived.Test.YthjdpplgfdihoaaGreatDoorBunAD

set_option linter.unusedSimpArgs false
set_option linter.unusedVariables false
set_option maxRecDepth 100000
set_option maxHeartbeats 16000000
namespace Go.Proofs.YthjdpplgfdihoaaGreatDoor
section
open Go Go.RowKit
theorem qy2 {P:Program} {ops:Array Oper} {o:Oper} {a:Act} {w:World} {K:Act→World→Prop} {Q:Exit→Act→World→Prop} {E:Prop} (hgd:o.guard=none) (s x:Operand) (t:TypeId)
  (ho:o.op=.call { callee:=.builtin .append,args:=#[s,x],argTypes:=#[t,t] })
  (base:Nat) (e:TypeId) (i:TypeInfo) (z:Value) (size bytes:Nat) (ht:P.underlying t=some (.slice e)) (hi:P.info? e=some i) (hz:i.zero=some z)
  (hsize:i.size=size) (hby:i.bytes=bytes) (hzs:z.cells.size=size) (hsz:0 < size) (hbase:base≤w.heap.size) (v:Value) (n:Nat) (xs:List Value) (hs:a.eval s=v) (hown:w.ownsRow base e size v n xs)
  (B:Nat) (A:Option Addr) (m c:Nat) (news:List Value) (hx:a.eval x=.slice A m c) (hr:Row B w A m size news) (h1:∀u∈news,u.oneCell'=true)
  (N:Nat) (X:List Value) (hN:n+m=N) (hX:xs++news=X) (h63:N≤maxLen) (hbytes:N *bytes≤140737488355328)
  (h:∀A' c' w',w'.ownsRow base e size (.slice A' N c') N X→w.grownBy w' v.ownBlock→N≤c'→c'≤maxLen→((Value.slice A' N c').ownBlock=v.ownBlock∨(Value.slice A' N c').ownBlock=some w.heap.size)→K (a.put o.dst (.slice A' N c')) w'):
  if Region.wanted o (yielded ops a.tmps)=true then Oper.wp P o a w K Q else E:=by
 have hw:Region.wanted o (yielded ops a.tmps)=true:=by simp[Region.wanted,hgd]
 rw[if_pos hw];subst hN;subst hX;obtain⟨A',c',w',hrun,h3,h4,h5,h7,h6⟩:=dq3 (P:=P) w base t o.type e i z size bytes ht hi hz hsize hby hzs hsz v n xs hown B A m c news hr h1 h63 hbytes hbase;unfold Oper.wp execOp;simp only[ho,resolve,invoke,builtin,Sem.run_bind,Sem.run_pure,Result.andThen_ok,List.map_toArray,List.map_cons,List.map_nil,hs,hx,hrun];exact h A' c' w' h3 h4 h5 h7 h6
theorem ez1.base {B B' n c:Nat} {w:World} {A:Option Addr} {fs:List (Int×Int)} (h:ez1 B w A n c fs) (hb:B'≤B):ez1 B' w A n c fs:=⟨h.row,h.nc,h.cm,fun a ha=>Nat.le_trans hb (h.low a ha)⟩
theorem BoxO.grown {w w':World} {e:TypeId} {g:Nat} {xs:List Value} (h:BoxO w e g xs) (hg:w.grownBy w' none):BoxO w' e g xs:=(hg.block g h.lt (by simp)).trans h
theorem tq3 (v:Vw) (A:Option Addr) (n c:Nat) (w:World) (hn:n≤100000) (hr:Row w.heap.size w A n 2 (dw v.files)):
  Calls Tryz.prog 157 #[v.val A n c] w fun e w'=>∃A' c',e=.returned (v.val A' n c')∧ez1 w.heap.size w' A' n c' v.files∧Below w.heap.size w w':=by
 obtain⟨i0,hi0,hz0,hz1,hz2⟩:=info_parts kx1;obtain⟨g,fs,f,ce,a,l⟩:=v;unfold Vw.val;simp only at hr ⊢;go_enter Tryz.func157,Tryz.ntmps157;go_wp2_with (at_builtin;refine jq ?_);have hbw:Below w.heap.size w ((w.alloc (.cells #[.int .i64 g,.slice A n c,.int .u64 (f:Int),.int .u64 (ce:Int),.int .u64 (a:Int),.int .u64 (l:Int)] 86)).alloc (.cells #[.int .i64 0,.slice none 0 0,.int .u64 0,.int .u64 0,.int .u64 0,.int .u64 0] 86)):=((Below.refl _ _).alloc (Nat.le_refl _) _).alloc (by simp) _;have hP:=(BoxO.new w #[.int .i64 g,.slice A n c,.int .u64 (f:Int),.int .u64 (ce:Int),.int .u64 (a:Int),.int .u64 (l:Int)] 86).alloc (.cells #[.int .i64 0,.slice none 0 0,.int .u64 0,.int .u64 0,.int .u64 0,.int .u64 0] 86);have hR:=BoxO.new (w.alloc (.cells #[.int .i64 g,.slice A n c,.int .u64 (f:Int),.int .u64 (ce:Int),.int .u64 (a:Int),.int .u64 (l:Int)] 86)) #[.int .i64 0,.slice none 0 0,.int .u64 0,.int .u64 0,.int .u64 0,.int .u64 0] 86;simp only[World.size_alloc]at hR;have hsz:((w.alloc (.cells #[.int .i64 g,.slice A n c,.int .u64 (f:Int),.int .u64 (ce:Int),.int .u64 (a:Int),.int .u64 (l:Int)] 86)).alloc (.cells #[.int .i64 0,.slice none 0 0,.int .u64 0,.int .u64 0,.int .u64 0,.int .u64 0] 86)).heap.size=w.heap.size+1+1:=by simp
 refine gy (uw rfl _ (.tmp 4) _ rfl (w.heap.size+1+1) 170 i0 _ 2 16 Tryz.underlying84 hi0 hz0 hz1 hz2 rfl (by omega) ((w.alloc (.cells #[.int .i64 g,.slice A n c,.int .u64 (f:Int),.int .u64 (ce:Int),.int .u64 (a:Int),.int .u64 (l:Int)] 86)).alloc (.cells #[.int .i64 0,.slice none 0 0,.int .u64 0,.int .u64 0,.int .u64 0,.int .u64 0] 86)) (Below.refl _ _) (by rw[hsz];exact Nat.le_refl _) rfl w.heap.size A n c (dw fs) rfl (hr.below hbw) (fj1 _) (by unfold maxLen;omega) (by omega) ?_);intro A1 k1 w1 ho1 hb1 hg1 hk1 hm1;have hbl1:Below w.heap.size w w1:=hbw.trans (hb1.mono (by omega));have hP1:BoxO w1 _ _ _:=hP.grown hg1;have hR1:BoxO w1 _ _ _:=hR.grown hg1;have hF:=xj1 ho1 (Nat.le_refl _);clear hbw hP hR hsz hb1 hg1 ho1;have q0:=hP1.cell 0;have q1:=hP1.cell 1;have z1:=hP1.free 1;have q2:=hP1.cell 2;have q3:=hP1.cell 3;have q4:=hP1.cell 4;have q5:=hP1.cell 5;have r0:=hR1.cell 0;have y0:=hR1.free 0;have r1:=hR1.cell 1;have y1:=hR1.free 1;have r2:=hR1.cell 2;have y2:=hR1.free 2;have r3:=hR1.cell 3;have y3:=hR1.free 3;have r4:=hR1.cell 4;have y4:=hR1.free 4;have r5:=hR1.cell 5;have y5:=hR1.free 5;simp only[gE0,gE1]at q0 q1 q2 q3 q4 q5 r0 r1 r2 r3 r4 r5;clear hP1 hR1;go_wp2_with fail;refine bodyPost_ret (v:=.agg #[.int .i64 g,.slice A1 n k1,.int .u64 (f:Int),.int .u64 (ce:Int),.int .u64 (a:Int),.int .u64 (l:Int)]) (by simp[results,go_sem, *]) rfl ⟨A1,k1,rfl,?_,?_⟩
 ·have hch:Chg [w.heap.size,w.heap.size+1] w1 _:=(((((((Chg.refl _ w1).setCell (p:=⟨w.heap.size,1,none⟩) (.slice A1 n k1) (.inl (by simp))).setCell (p:=⟨w.heap.size+1,0,none⟩) (.int .i64 g) (.inl (by simp))).setCell (p:=⟨w.heap.size+1,1,none⟩) (.slice A1 n k1) (.inl (by simp))).setCell (p:=⟨w.heap.size+1,2,none⟩) (.int .u64 (f:Int)) (.inl (by simp))).setCell (p:=⟨w.heap.size+1,3,none⟩) (.int .u64 (ce:Int)) (.inl (by simp))).setCell (p:=⟨w.heap.size+1,4,none⟩) (.int .u64 (a:Int)) (.inl (by simp))).setCell (p:=⟨w.heap.size+1,5,none⟩) (.int .u64 (l:Int)) (.inl (by simp))
  exact(hF.chg hch (fun q hq h=>by
   have:=hF.low q hq;simp at h;omega)).base (by omega)
 ·exact((((((hbl1.setCell (by simp) _).setCell (by simp) _).setCell (by simp) _).setCell (by simp) _).setCell (by simp) _).setCell (by simp) _).setCell (by simp) _
theorem uy3 (v:Vw) (A:Option Addr) (n c:Nat) (w:World) (hn:n≤100000) (hr:Row w.heap.size w A n 2 (dw v.files)):
  Calls Tryz.prog 248 #[v.val A n c] w fun e w'=>∃A' c',e=.returned (v.whole.val none 0 0 A' n c')∧ez1 w.heap.size w' A' n c' v.files∧Below w.heap.size w w':=by
 obtain⟨i0,hi0,hz0,hz1,hz2⟩:=info_parts kx1;obtain⟨g,fs,f,ce,a,l⟩:=v;unfold Vw.val Vw.whole Ed.val;simp only at hr ⊢;go_enter Tryz.func248,Tryz.ntmps248;go_wp2_with fail;change Code.wp _ _ _ _ ((w.alloc (.cells #[.int .i64 g,.slice A n c,.int .u64 (f:Int),.int .u64 (ce:Int),.int .u64 (a:Int),.int .u64 (l:Int)] 86)).alloc (.cells #[.slice none 0 0,.slice none 0 0,.int .i64 0,.int .u64 0,.int .u64 0,.int .u64 0,.int .u64 0] 194));have hbw:Below w.heap.size w ((w.alloc (.cells #[.int .i64 g,.slice A n c,.int .u64 (f:Int),.int .u64 (ce:Int),.int .u64 (a:Int),.int .u64 (l:Int)] 86)).alloc (.cells #[.slice none 0 0,.slice none 0 0,.int .i64 0,.int .u64 0,.int .u64 0,.int .u64 0,.int .u64 0] 194)):=((Below.refl _ _).alloc (Nat.le_refl _) _).alloc (by simp) _;have hP:=(BoxO.new w #[.int .i64 g,.slice A n c,.int .u64 (f:Int),.int .u64 (ce:Int),.int .u64 (a:Int),.int .u64 (l:Int)] 86).alloc (.cells #[.slice none 0 0,.slice none 0 0,.int .i64 0,.int .u64 0,.int .u64 0,.int .u64 0,.int .u64 0] 194);have hR:=BoxO.new (w.alloc (.cells #[.int .i64 g,.slice A n c,.int .u64 (f:Int),.int .u64 (ce:Int),.int .u64 (a:Int),.int .u64 (l:Int)] 86)) #[.slice none 0 0,.slice none 0 0,.int .i64 0,.int .u64 0,.int .u64 0,.int .u64 0,.int .u64 0] 194;simp only[World.size_alloc]at hR;have hsz:((w.alloc (.cells #[.int .i64 g,.slice A n c,.int .u64 (f:Int),.int .u64 (ce:Int),.int .u64 (a:Int),.int .u64 (l:Int)] 86)).alloc (.cells #[.slice none 0 0,.slice none 0 0,.int .i64 0,.int .u64 0,.int .u64 0,.int .u64 0,.int .u64 0] 194)).heap.size=w.heap.size+1+1:=by simp
 have hrV:=hr.below hbw;generalize ((w.alloc (.cells #[.int .i64 g,.slice A n c,.int .u64 (f:Int),.int .u64 (ce:Int),.int .u64 (a:Int),.int .u64 (l:Int)] 86)).alloc (.cells #[.slice none 0 0,.slice none 0 0,.int .i64 0,.int .u64 0,.int .u64 0,.int .u64 0,.int .u64 0] 194))=V at *;have HRV:=Lib.hid hrV.drew;have HSZ:Hid (w.heap.size+1+1≤V.drew.heap.size):=Lib.hid (Nat.le_of_eq hsz.symm);clear hrV hr hsz;refine wp_region_held_drew (S:=(fun w'=>Below w.heap.size w w'∧BoxO w' 86 w.heap.size [.int .i64 g,.slice A n c,.int .u64 (f:Int),.int .u64 (ce:Int),.int .u64 (a:Int),.int .u64 (l:Int)])) rfl ⟨ak hbw,hP.drew⟩ (fun hSw=>?_);refine wpT (i:=0) (v:=?v0) ?h0 hSw ?k0
 case h0=>(intro w hSw;have u0:=hSw.2.cell 0;have u1:=hSw.2.cell 1;have u2:=hSw.2.cell 2;have u3:=hSw.2.cell 3;have u4:=hSw.2.cell 4;have u5:=hSw.2.cell 5;simp only[gE0,gE1]at u0 u1 u2 u3 u4 u5;go_simp;try (with_reducible rfl))
 go_simp;refine wpT (i:=1) (v:=?v1) ?h1 hSw ?k1
 case h1=>(intro w hSw;have u0:=hSw.2.cell 0;have u1:=hSw.2.cell 1;have u2:=hSw.2.cell 2;have u3:=hSw.2.cell 3;have u4:=hSw.2.cell 4;have u5:=hSw.2.cell 5;simp only[gE0,gE1]at u0 u1 u2 u3 u4 u5;go_simp;try (with_reducible rfl))
 go_simp;refine wpT (i:=3) (v:=?v3) ?h3 hSw ?k3
 case h3=>(intro w hSw;have u0:=hSw.2.cell 0;have u1:=hSw.2.cell 1;have u2:=hSw.2.cell 2;have u3:=hSw.2.cell 3;have u4:=hSw.2.cell 4;have u5:=hSw.2.cell 5;simp only[gE0,gE1]at u0 u1 u2 u3 u4 u5;go_simp;try (with_reducible rfl))
 go_simp;refine wpT (i:=4) (v:=?v4) ?h4 hSw ?k4
 case h4=>(intro w hSw;have u0:=hSw.2.cell 0;have u1:=hSw.2.cell 1;have u2:=hSw.2.cell 2;have u3:=hSw.2.cell 3;have u4:=hSw.2.cell 4;have u5:=hSw.2.cell 5;simp only[gE0,gE1]at u0 u1 u2 u3 u4 u5;go_simp;try (with_reducible rfl))
 go_simp;refine wpT (i:=5) (v:=?v5) ?h5 hSw ?k5
 case h5=>(intro w hSw;have u0:=hSw.2.cell 0;have u1:=hSw.2.cell 1;have u2:=hSw.2.cell 2;have u3:=hSw.2.cell 3;have u4:=hSw.2.cell 4;have u5:=hSw.2.cell 5;simp only[gE0,gE1]at u0 u1 u2 u3 u4 u5;go_simp;try (with_reducible rfl))
 go_simp;refine wpT (i:=6) (v:=?v6) ?h6 hSw ?k6
 case h6=>(intro w hSw;have u0:=hSw.2.cell 0;have u1:=hSw.2.cell 1;have u2:=hSw.2.cell 2;have u3:=hSw.2.cell 3;have u4:=hSw.2.cell 4;have u5:=hSw.2.cell 5;simp only[gE0,gE1]at u0 u1 u2 u3 u4 u5;go_simp;try (with_reducible rfl))
 go_simp;refine wpT (i:=7) (v:=?v7) ?h7 hSw ?k7
 case h7=>(intro w hSw;have u0:=hSw.2.cell 0;have u1:=hSw.2.cell 1;have u2:=hSw.2.cell 2;have u3:=hSw.2.cell 3;have u4:=hSw.2.cell 4;have u5:=hSw.2.cell 5;simp only[gE0,gE1]at u0 u1 u2 u3 u4 u5;go_simp;try (with_reducible rfl))
 go_simp;refine wpT (i:=8) (v:=?v8) ?h8 hSw ?k8
 case h8=>(intro w hSw;have u0:=hSw.2.cell 0;have u1:=hSw.2.cell 1;have u2:=hSw.2.cell 2;have u3:=hSw.2.cell 3;have u4:=hSw.2.cell 4;have u5:=hSw.2.cell 5;simp only[gE0,gE1]at u0 u1 u2 u3 u4 u5;go_simp;try (with_reducible rfl))
 go_simp;refine wpT (i:=9) (v:=?v9) ?h9 hSw ?k9
 case h9=>(intro w hSw;have u0:=hSw.2.cell 0;have u1:=hSw.2.cell 1;have u2:=hSw.2.cell 2;have u3:=hSw.2.cell 3;have u4:=hSw.2.cell 4;have u5:=hSw.2.cell 5;simp only[gE0,gE1]at u0 u1 u2 u3 u4 u5;go_simp;try (with_reducible rfl))
 go_simp;refine wpT (i:=10) (v:=?v10) ?h10 hSw ?k10
 case h10=>(intro w hSw;have u0:=hSw.2.cell 0;have u1:=hSw.2.cell 1;have u2:=hSw.2.cell 2;have u3:=hSw.2.cell 3;have u4:=hSw.2.cell 4;have u5:=hSw.2.cell 5;simp only[gE0,gE1]at u0 u1 u2 u3 u4 u5;go_simp;try (with_reducible rfl))
 go_simp;refine wpT (i:=11) (v:=?v11) ?h11 hSw ?k11
 case h11=>(intro w hSw;have u0:=hSw.2.cell 0;have u1:=hSw.2.cell 1;have u2:=hSw.2.cell 2;have u3:=hSw.2.cell 3;have u4:=hSw.2.cell 4;have u5:=hSw.2.cell 5;simp only[gE0,gE1]at u0 u1 u2 u3 u4 u5;go_simp;try (with_reducible rfl))
 go_simp;refine wpT (i:=12) (v:=?v12) ?h12 hSw ?k12
 case h12=>(intro w hSw;have u0:=hSw.2.cell 0;have u1:=hSw.2.cell 1;have u2:=hSw.2.cell 2;have u3:=hSw.2.cell 3;have u4:=hSw.2.cell 4;have u5:=hSw.2.cell 5;simp only[gE0,gE1]at u0 u1 u2 u3 u4 u5;go_simp;try (with_reducible rfl))
 go_simp;refine wpAnyH_ready (rs:=[2]) (by kernel_rfl) (by simp) ?_;refine AllReadyH.cons rfl (fun K hK=>?_) AllReadyH.nil;refine qy2 rfl (.const (.slice none 0 0)) (.tmp 4) _ rfl (w.heap.size+1+1) 170 i0 _ 2 16 Tryz.underlying84 hi0 hz0 hz1 hz2 rfl (by omega) HSZ.out (.slice none 0 0) 0 [] rfl (World.ownsRow_nil _ _ _ _) w.heap.size A n c (dw fs) rfl HRV.out (fj1 _) n _ (Nat.zero_add _) (List.nil_append _) (by unfold maxLen;omega) (by omega) ?_;intro A4 c4 w4 hown4 hg4 _ _ _;have hF4:=xj1 (B:=w.heap.size+1+1) hown4 (Nat.le_refl _);have hR4:BoxO w4 _ _ _:=hR.drew.grown hg4;have hS4:=(⟨hSw.1.grown hg4 hSw.1.size (fun k hk=>by cases hk),hSw.2.grown hg4⟩:Below w.heap.size w w4∧BoxO w4 86 w.heap.size [.int .i64 g,.slice A n c,.int .u64 (f:Int),.int .u64 (ce:Int),.int .u64 (a:Int),.int .u64 (l:Int)]);refine hK.out _ _ hS4 (fun hSn=>?_);clear hK K hSw hSn;have hSw:=hS4;clear hS4 hown4 hg4 hR hP hbw HRV HSZ;go_simp;refine wpT (i:=13) (v:=?v13) ?h13 hSw ?k13
 case h13=>(intro w hSw;have u0:=hSw.2.cell 0;have u1:=hSw.2.cell 1;have u2:=hSw.2.cell 2;have u3:=hSw.2.cell 3;have u4:=hSw.2.cell 4;have u5:=hSw.2.cell 5;simp only[gE0,gE1]at u0 u1 u2 u3 u4 u5;go_simp;try (with_reducible rfl))
 go_simp;have r0:=hR4.cell 0;have y0:=hR4.free 0;have r1:=hR4.cell 1;have y1:=hR4.free 1;have r2:=hR4.cell 2;have y2:=hR4.free 2;have r3:=hR4.cell 3;have y3:=hR4.free 3;have r4:=hR4.cell 4;have y4:=hR4.free 4;have r5:=hR4.cell 5;have y5:=hR4.free 5;have r6:=hR4.cell 6;have y6:=hR4.free 6;simp only[gE0,gE1]at r0 r1 r2 r3 r4 r5 r6;have hch:Chg [w.heap.size+1] w4 _:=(((((((Chg.refl _ w4).setCell (p:=⟨w.heap.size+1,0,none⟩) (.slice none 0 0) (.inl (by simp))).setCell (p:=⟨w.heap.size+1,1,none⟩) (.slice A4 n c4) (.inl (by simp))).setCell (p:=⟨w.heap.size+1,2,none⟩) (.int .i64 g) (.inl (by simp))).setCell (p:=⟨w.heap.size+1,3,none⟩) (.int .u64 (f:Int)) (.inl (by simp))).setCell (p:=⟨w.heap.size+1,4,none⟩) (.int .u64 (ce:Int)) (.inl (by simp))).setCell (p:=⟨w.heap.size+1,5,none⟩) (.int .u64 (a:Int)) (.inl (by simp))).setCell (p:=⟨w.heap.size+1,6,none⟩) (.int .u64 (l:Int)) (.inl (by simp));refine wpAnyH_ready (rs:=[14]) (by kernel_rfl) (by simp) ?_;refine AllReadyH.cons rfl (fun K hK=>?_) AllReadyH.nil;go_simp;refine hK.out _ _ ⟨(((((((hSw.1.setCell (by simp) _).setCell (by simp) _).setCell (by simp) _).setCell (by simp) _).setCell (by simp) _).setCell (by simp) _).setCell (by simp) _),hSw.2.chg hch (by simp)⟩ (fun hSn=>?_);clear hK K hSw;have hSw:=hSn;clear hSn;go_simp;refine wpAnyH_done (by kernel_rfl) ?_ _;go_wp2_with fail;refine bodyPost_ret (v:=.agg #[.slice none 0 0,.slice A4 n c4,.int .i64 g,.int .u64 (f:Int),.int .u64 (ce:Int),.int .u64 (a:Int),.int .u64 (l:Int)]) (by simp[results,go_sem, *]) rfl ⟨A4,c4,rfl,?_,hSw.1⟩;exact(hF4.chg hch (fun q hq h=>by
  have:=hF4.low q hq;simp at h;omega)).base (by omega)
end
section
open Go Go.RowKit Go.Lib
end
section
open Go Go.RowKit Go.Lib
end
section
namespace It
end It
end
section
open Go Go.RowKit Go.Lib
theorem sk3:(Tryz.prog.info? 31).map (fun i=>(i.zero,i.size,i.bytes))=some (some (.slice none 0 0),1,24):=by kernel_rfl
def TbAt (w:World) (f:Nat) (rs:List (List It)):Prop:=∃P n c cnt,cnt=rs.flatten.length∧BoxO w 288 f [.slice P n c,.int .i64 ((cnt:Nat):Int),.int .u32 0,.int .i32 0,.int .u32 0,.pointer none]∧n≤c∧c≤maxLen∧qx2 w.heap.size w P n rs
def tv1 (b:Nat) (no:Option Nat) (w:World) (ls:List (List It)) (vs:List Value):Prop:=ls.length=vs.length∧∀i (h:i < ls.length),∃A k c,vs[i]?=some (.slice A k c)∧k≤c∧c≤maxLen∧Row w.heap.size w A k 5 (itc ls[i])∧∀a,A=some a→b≤a.block∧a.block < w.heap.size∧some a.block≠no
theorem tv1.step {b:Nat} {no no':Option Nat} {w w':World} {ls:List (List It)} {vs:List Value} (hh:tv1 b no w ls vs) (hs:w.heap.size≤w'.heap.size) (hk:∀g,b≤g→g < w.heap.size→some g≠no→w'.heap[g]?=w.heap[g]?) (hn:∀g,g < w.heap.size→some g≠no→some g≠no'):tv1 b no' w' ls vs:=by
 refine⟨hh.1,fun i hi=>?_⟩;obtain⟨A,k,c,h1,h2,h3,h4,h5⟩:=hh.2 i hi;refine⟨A,k,c,h1,h2,h3,⟨h4.len,fun j hj=>?_⟩,fun a ha=>⟨(h5 a ha).1,by have:=(h5 a ha).2.1;omega,hn _ (h5 a ha).2.1 (h5 a ha).2.2⟩⟩;obtain⟨a,e,q1,q2⟩:=h4.cell j hj;refine⟨a,e,by omega,?_⟩;rw[World.cell?_of_block (w:=w) (by rw[add_block];exact hk _ (h5 a e).1 (h5 a e).2.1 (h5 a e).2.2)];exact q2
theorem tv1.snoc {b:Nat} {no:Option Nat} {w:World} {ls:List (List It)} {vs:List Value} (hh:tv1 b no w ls vs) {l:List It} {A:Option Addr} {k c:Nat} (h1:k≤c) (h2:c≤maxLen) (h3:Row w.heap.size w A k 5 (itc l)) (h4:∀a,A=some a→b≤a.block∧a.block < w.heap.size∧some a.block≠no):tv1 b no w (ls++[l]) (vs++[.slice A k c]):=by
 refine⟨by rw[List.length_append,List.length_append,hh.1];rfl,fun i hi=>?_⟩;rw[List.length_append]at hi
 rcases Nat.lt_or_ge i ls.length with q1|q1
 ·obtain⟨A,k,c,z1,z2,z3,z4,z5⟩:=hh.2 i q1
  refine⟨A,k,c,by rw[List.getElem?_append_left (by have:=hh.1;omega)];exact z1,z2,z3,?_,z5⟩;rw[List.getElem_append_left q1];exact z4
 ·have q2:i=ls.length:=by simp at hi;omega
  subst q2;refine⟨A,k,c,by rw[hh.1];simp,h1,h2,?_,h4⟩;rw[List.getElem_append_right (Nat.le_refl _)];simp only[Nat.sub_self,List.getElem_cons_zero];exact h3
end
section
open Go Go.RowKit Go.Shelf
structure Sl where
 a:Option Addr
 n:Nat
 c:Nat
def Gs.cells (M:Gs) (xd:Nat) (P:Sl):List Value:=[.pointer (some ⟨xd,0,none⟩),.string (str M.name),.int .i64 M.v.log,.slice P.a P.n P.c,.int .u64 (M.v.floor:Int),.int .u64 (M.v.cert:Int),.int .u64 (M.v.at_:Int),.int .u64 (M.v.lease:Int),.int .i64 (M.count:Int),.int .u32 (if M.broken=true then 1 else 0),.int .i32 0,.int .u32 0,.bool M.broken]
abbrev GK (w:World) (m xd:Nat) (M:Gs) (P:Sl):Prop:=BoxO w 224 m (M.cells xd P)
theorem kz3 (m xd:Nat) (M:Gs) (P:Sl) (w:World) (h:GK w m xd M P):Calls Tryz.prog 253 #[.pointer (some ⟨m,0,none⟩)] w fun e w'=>e=.returned (.tuple #[])∧GK w' m xd { M with broken:=true } P∧Chg [m] w w':=by
 have hmf:∀(fn:Fn) (first cap:Array Value) (w:World),(Instr.makeFunc fn first cap).run Tryz.prog w=.ok (.func fn first cap) w:=fun _ _ _ _=>rfl;have hlt:=h.lt;have h1:GK (w.alloc (.cells #[.pointer (some ⟨m,0,none⟩)] 135)) m xd M P:=BoxO.alloc h _;have hp:(w.alloc (.cells #[.pointer (some ⟨m,0,none⟩)] 135)).cell? ⟨w.heap.size,0,none⟩=some (.pointer (some ⟨m,0,none⟩)):=by simp
 have hc1:Chg [m] w (w.alloc (.cells #[.pointer (some ⟨m,0,none⟩)] 135)):=(Chg.refl [m] w).alloc _;generalize hV:w.alloc (.cells #[.pointer (some ⟨m,0,none⟩)] 135)=V at *;have c9:=h1.cell 9;have c10:=h1.cell 10;have c12:=h1.cell 12;simp only[Gs.cells,gE0,gE1]at c9 c10 c12
 cases hb:M.broken with
 |false=>
  rw[hb]at c9 c12;simp only[Bool.false_eq_true,if_false]at c9;have hdo:=Once.do_first m ⟨w.heap.size,0,none⟩ (by simp;omega) _ V hp c9 c10 c12 (h1.free 9) (h1.free 10) (h1.free 12);have hbx:=((((h1.store 10 (.int .i32 1)).store 12 (.bool true)).drew.store 9 (.int .u32 1)).store 10 (.int .i32 0));have hcc:Chg [m] V ((((V.setCell ⟨m,10,none⟩ (.int .i32 1)).setCell ⟨m,12,none⟩ (.bool true)).drew.setCell ⟨m,9,none⟩ (.int .u32 1)).setCell ⟨m,10,none⟩ (.int .i32 0)):=(((((Chg.refl [m] V).setCell _ (.inl (by simp))).setCell _ (.inl (by simp))).drew).setCell _ (.inl (by simp))).setCell _ (.inl (by simp));have hres:GK ((((V.setCell ⟨m,10,none⟩ (.int .i32 1)).setCell ⟨m,12,none⟩ (.bool true)).drew.setCell ⟨m,9,none⟩ (.int .u32 1)).setCell ⟨m,10,none⟩ (.int .i32 0)) m xd { M with broken:=true } P:=hbx;have HR:=Lib.hid (And.intro hres (hc1.trans hcc (fun g hg=>.inl hg)));clear hres hcc hbx hb;go_enter Tryz.func253,Tryz.ntmps253;go_wp2_with fail;refine hdo.mono ?_;rintro e w2 ⟨rfl,rfl⟩;go_wp2;exact bodyPost_end (v:=.tuple #[]) (by simp[results,go_sem]) rfl ⟨rfl,HR.out⟩
 |true=>
  rw[hb]at c9;simp only[if_true]at c9;have hdo:=Once.do_done ⟨m,9,none⟩ 1 (by omega) (.func (.func 308) #[] #[.pointer (some ⟨w.heap.size,0,none⟩)]) V c9;have hres:GK V m xd { M with broken:=true } P:=by
   have e:({ M with broken:=true }:Gs)=M:=by cases M;simp at hb;simp[hb]
   rw[e];exact h1
  have HR:=Lib.hid (And.intro hres hc1);clear hres hb;go_enter Tryz.func253,Tryz.ntmps253;go_wp2_with fail;refine hdo.mono ?_;rintro e w2 ⟨rfl,hw2⟩;obtain rfl:=hw2.symm;go_wp2;exact bodyPost_end (v:=.tuple #[]) (by simp[results,go_sem]) rfl ⟨rfl,HR.out⟩
structure Vrow (w:World) (X:Dw) (m:Nat) (P:Sl) (fs:List (Int×Int)):Prop where
 row:Row w.heap.size w P.a P.n 2 (dw fs)
 nc:P.n≤P.c
 cm:P.c≤maxLen
 nb:P.n≤10000
 away:∀j,j < (dw fs).length→∀a,P.a=some a→a.block≠m∧a.block∉X.foot
section
variable {w w':World} {X X':Dw} {m:Nat} {P:Sl} {fs:List (Int×Int)}
theorem yj {B n size:Nat} {A:Option Addr} {xs:List Value} {F:List Nat} (h:Chg F w w') (r:Row B w A n size xs) (hB:B≤w.heap.size) (hF:∀j,j < xs.length→∀a,A=some a→a.block∉F):Row B w' A n size xs:=
 ⟨r.len,fun j hj=>let ⟨a,e,b,c⟩:=r.cell j hj;⟨a,e,b,(h.cell (p:=a.add j) (by rw[add_block];omega) (by rw[add_block];exact hF j hj a e)).trans c⟩⟩
theorem Vrow.below (h:Vrow w X m P fs) (hb:Below w.heap.size w w'):Vrow w' X m P fs:=⟨(h.row.below hb).up hb.size,h.nc,h.cm,h.nb,h.away⟩
theorem Vrow.turn (h:Vrow w X m P fs) (c:Chg [m] w w'):Vrow w' X m P fs:=⟨(yj c h.row (Nat.le_refl _) (fun j hj a ha hm=>(h.away j hj a ha).1 (List.mem_singleton.1 hm))).up c.size,h.nc,h.cm,h.nb,h.away⟩
theorem Vrow.step (h:Vrow w X m P fs) (c:Chg X.foot w w') (hf:∀g∈X'.foot,g∈X.foot∨w.heap.size≤g):Vrow w' X' m P fs:=
 ⟨(yj c h.row (Nat.le_refl _) (fun j hj a ha=>(h.away j hj a ha).2)).up c.size,h.nc,h.cm,h.nb,fun j hj a ha=>⟨(h.away j hj a ha).1,fun hm=>by
  rcases hf _ hm with h1|h1
  ·exact(h.away j hj a ha).2 h1
  ·obtain⟨a',e,hb,_⟩:=h.row.cell j hj
   rw[ha]at e;injection e with e;subst e;omega⟩⟩
end
structure Gst (P:Sl) (m:Nat) (X:Dw) (w:World) (S:Sd) (M:Gs) (w':World) (X':Dw):Prop where
 acc:Acc [m] X w S w' X'
 man:GK w' m X.d M P
 row:Vrow w' X' m P M.v.files
 lt:m < w.heap.size
 out:m∉X.foot
 ng:NG≤m
variable {P P1:Sl} {m:Nat} {X X1:Dw} {w w1 w2:World} {S S1:Sd} {M M1:Gs}
theorem Gst.start (h:Dm w X S) (hm:GK w m X.d M P) (hr:Vrow w X m P M.v.files) (ho:m∉X.foot) (hn:NG≤m):Gst P m X w S M w X:=⟨Acc.start h,hm,hr,hm.lt,ho,hn⟩
theorem Gst.away (h:Gst P m X w S M w1 X1):m∉X1.foot:=fun hm=>by
 rcases h.acc.f m hm with h1|h1
 ·exact h.out h1
 ·have:=h.lt
  omega
theorem Gst.below (h:Gst P m X w S M w1 X1) (hb:Below w1.heap.size w1 w2):Gst P m X w S M w2 X1:=⟨h.acc.below hb,h.man.below hb,h.row.below hb,h.lt,h.out,h.ng⟩
theorem Gst.step (h:Gst P m X w S M w1 X1) (hu:UpdM X1 w1 w2 S1):∃X2,Gst P m X w S1 M w2 X2:=by
 obtain⟨X2,e,hd,hc,hf⟩:=hu;refine⟨X2,⟨e.trans h.acc.e,hd,h.acc.c.trans hc (fun g hg=>?_),fun g hg=>?_⟩,h.man.chg hc h.away,h.row.step hc hf,h.lt,h.out,h.ng⟩
 ·rcases h.acc.f g hg with h1|h1
  ·exact .inl (List.mem_append_right _ h1)
  ·exact .inr h1
 ·rcases hf g hg with h1|h1
  ·exact h.acc.f g h1
  ·exact .inr (Nat.le_trans h.acc.c.size h1)
theorem Gst.turn (h:Gst P m X w S M w1 X1) (c:Chg [m] w1 w2) (hm:GK w2 m X.d M1 P) (hv:M1.v=M.v):Gst P m X w S M1 w2 X1:=
 ⟨h.acc.other c (fun g hg=>by rw[List.mem_singleton.1 hg];exact⟨by simp,h.lt,h.out,h.ng⟩),hm,by rw[hv];exact h.row.turn c,h.lt,h.out,h.ng⟩
theorem Gst.read (h:Gst P m X w S M w1 X1) (s:ByteArray) (hs:s.size≤maxLen):
  Calls Tryz.prog 25 #[.pointer (some ⟨X.d,0,none⟩),.string s] w1 fun e w'=>∃A c,e=.returned (.tuple #[.slice A (S.read s.data.toList).1.length c,.int .i64 ((S.read s.data.toList).2:Int)])∧Below w1.heap.size w1 w':=
 (h.acc.read s hs).mono fun _ _ ⟨A,c,h1,_,h2⟩=>⟨A,c,h1,h2⟩
theorem Gst.write (h:Gst P m X w S M w1 X1) (s:ByteArray) (hs:s.size≤maxLen) (A:Option Addr) (k c:Nat) (b:List UInt8) (hk:k≤1099511627776) (hl:S.load≤1099511627776) (hr:Row w1.heap.size w1 A k 1 (bts b)) (hA:∀a,A=some a→a.block∉X1.foot):
  Calls Tryz.prog 249 #[.pointer (some ⟨X.d,0,none⟩),.string s,.slice A k c] w1 fun e w'=>e=.returned (.int .i64 ((S.write s.data.toList b).2:Int))∧∃X2,Gst P m X w (S.write s.data.toList b).1 M w' X2:=by
 rw[←h.acc.e];exact(write_any X1 S s hs A k c b hk hl w1 h.acc.dm hr hA).mono fun _ _ ⟨h1,h2⟩=>⟨h1,h.step h2⟩
theorem Gst.append (h:Gst P m X w S M w1 X1) (s:ByteArray) (hs:s.size≤maxLen) (A:Option Addr) (k c:Nat) (b:List UInt8) (hk:k≤1099511627776) (hr:Row w1.heap.size w1 A k 1 (bts b)) (hA:∀a,A=some a→a.block∉X1.foot):
  Calls Tryz.prog 28 #[.pointer (some ⟨X.d,0,none⟩),.string s,.slice A k c] w1 fun e w'=>e=.returned (.int .i64 ((S.append s.data.toList b).2:Int))∧∃X2,Gst P m X w (S.append s.data.toList b).1 M w' X2:=by
 rw[←h.acc.e];exact(sq1 X1 S s hs A k c b hk h.acc.dm.wf w1 h.acc.dm.dk hr (fun a ha e=>hA a ha (by rw[e];exact aj.2 (.inl rfl)))).mono fun _ _ ⟨h1,h2⟩=>⟨h1,h.step (h.acc.dm.upd (h.acc.dm.wf.append _ _) h2)⟩
theorem Gst.sync (h:Gst P m X w S M w1 X1) (s:ByteArray) (hs:s.size≤maxLen):
  Calls Tryz.prog 29 #[.pointer (some ⟨X.d,0,none⟩),.string s] w1 fun e w'=>e=.returned (.int .i64 ((S.sync s.data.toList).2:Int))∧∃X2,Gst P m X w (S.sync s.data.toList).1 M w' X2:=by
 rw[←h.acc.e];exact(sync_any X1 S s hs h.acc.dm.wf w1 h.acc.dm.dk).mono fun _ _ ⟨h1,h2⟩=>⟨h1,h.step (h.acc.dm.upd (h.acc.dm.wf.sync _) h2)⟩
theorem Gst.remove (h:Gst P m X w S M w1 X1) (s:ByteArray) (hs:s.size≤maxLen) (hl:S.load≤1099511627776):
  Calls Tryz.prog 26 #[.pointer (some ⟨X.d,0,none⟩),.string s] w1 fun e w'=>e=.returned (.int .i64 ((S.remove s.data.toList).2:Int))∧∃X2,Gst P m X w (S.remove s.data.toList).1 M w' X2:=by
 rw[←h.acc.e];exact(lq1 X1 S s hs h.acc.dm.wf hl w1 h.acc.dm.dk).mono fun _ _ ⟨h1,h2⟩=>⟨h1,h.step (h.acc.dm.upd (h.acc.dm.wf.remove _) h2)⟩
theorem Gst.rename (h:Gst P m X w S M w1 X1) (s u:ByteArray) (hs:s.size≤maxLen) (hu:u.size≤maxLen) (hl:S.load≤1099511627776):
  Calls Tryz.prog 252 #[.pointer (some ⟨X.d,0,none⟩),.string s,.string u] w1 fun e w'=>e=.returned (.int .i64 ((S.rename s.data.toList u.data.toList).2:Int))∧∃X2,Gst P m X w (S.rename s.data.toList u.data.toList).1 M w' X2:=by
 rw[←h.acc.e];exact(nv3 X1 S s u hs hu h.acc.dm.wf hl w1 h.acc.dm.dk).mono fun _ _ ⟨h1,h2⟩=>⟨h1,h.step (h.acc.dm.upd (h.acc.dm.wf.rename _ _) h2)⟩
theorem Gst.ax (h:Gst P m X w S M w1 X1):
  Calls Tryz.prog 30 #[.pointer (some ⟨X.d,0,none⟩)] w1 fun e w'=>e=.returned (.int .i64 ((S.ax).2:Int))∧∃X2,Gst P m X w (S.ax).1 M w' X2:=by
 rw[←h.acc.e];exact(xx2 X1 S h.acc.dm.wf w1 h.acc.dm.dk).mono fun _ _ ⟨h1,h2⟩=>⟨h1,h.step (h.acc.dm.upd h.acc.dm.wf.ax h2)⟩
theorem Gst.ry4 (h:Gst P m X w S M w1 X1):Calls Tryz.prog 253 #[.pointer (some ⟨m,0,none⟩)] w1 fun e w'=>e=.returned (.tuple #[])∧Gst P m X w S { M with broken:=true } w' X1:=
 (kz3 m X.d M P w1 h.man).mono fun _ _ ⟨h1,h2,h3⟩=>⟨h1,h.turn h3 h2 rfl⟩
theorem Gst.trans {X2:Dw} {S2:Sd} {M2:Gs} (h:Gst P m X w S M w1 X1) (k:Gst P1 m X1 w1 S2 M2 w2 X2):Gst P1 m X w S2 M2 w2 X2:=by
 refine⟨⟨k.acc.e.trans h.acc.e,k.acc.dm,h.acc.c.trans k.acc.c (fun g hg=>?_),fun g hg=>?_⟩,by rw[←h.acc.e];exact k.man,k.row,h.lt,h.out,h.ng⟩
 ·rcases List.mem_append.1 hg with h1|h1
  ·exact .inl (List.mem_append_left _ h1)
  ·rcases h.acc.f g h1 with h2|h2
   ·exact .inl (List.mem_append_right _ h2)
   ·exact .inr h2
 ·rcases k.acc.f g hg with h1|h1
  ·exact h.acc.f g h1
  ·exact .inr (Nat.le_trans h.acc.c.size h1)
theorem Gst.anew (h:Gst P m X w S M w1 X1):Gst P m X1 w1 S M w1 X1:=Gst.start h.acc.dm (by rw[h.acc.e];exact h.man) h.row h.away h.ng
def fv1 (P:Sl) (m:Nat) (X:Dw) (w:World) (R:Sd×Gs×Nat) (e:Ending) (w':World):Prop:=e=.returned (.int .i64 (R.2.2:Int))∧∃P' X',Gst P' m X w R.1 R.2.1 w' X'∧(P'=P∨∀a,P'.a=some a→w.heap.size≤a.block)
theorem fv1.mk_ {S2:Sd} {M2:Gs} {er:Nat} {R:Sd×Gs×Nat} (hR:R=(S2,M2,er)) {X2:Dw} (h:Gst P m X w S2 M2 w1 X2):fv1 P m X w R (.returned (.int .i64 (er:Int))) w1:=by
 subst hR;exact⟨rfl,P,X2,h,.inl rfl⟩
theorem fv1.mkN {S2:Sd} {M2:Gs} {er:Nat} {R:Sd×Gs×Nat} {P0:Sl} (hR:R=(S2,M2,er)) {X2:Dw} (h:Gst P m X w S2 M2 w1 X2) (hn:∀a,P.a=some a→w.heap.size≤a.block):fv1 P0 m X w R (.returned (.int .i64 (er:Int))) w1:=by
 subst hR;exact⟨rfl,P,X2,h,.inr hn⟩
end
section
open Go Go.RowKit
variable {B n:Nat} {w w':World} {A:Option Addr}
def gv1 (F:List Nat) (w:World) (p:World→Prop):Prop:=∀w',Chg F w w'→p w'
theorem gv1.now {F:List Nat} {p:World→Prop} (h:gv1 F w p):p w:=h w (Chg.refl F w)
theorem gv1.step {F G:List Nat} {p:World→Prop} (h:gv1 F w p) (c:Chg F w w') (hG:∀g∈G,g∈F∨w.heap.size≤g):gv1 G w' p:=fun _ k=>h _ (c.trans k hG)
theorem gv1.below {F:List Nat} {p:World→Prop} (h:gv1 F w p) (c:Below w.heap.size w w'):gv1 F w' p:=h.step (Chg.of_below c F) fun _ h=>.inl h
end
section
open Go Go.RowKit Go.Shelf
variable {m:Nat} {X X1:Dw} {w w1 w2:World} {S S1:Sd} {M M1:Ms}
theorem ax2 (n:Int):(Mw.headB n).length≤200:=by
 have h1:=Pn.jv n.toNat;simp only[Mw.headB,Fr.qw];omega
def sCur:ByteArray:=⟨#[99,117,114,114,101,110,116]⟩
def kx2:ByteArray:=⟨#[99,117,114,114,101,110,116,46,116,109,112]⟩
def sMan:ByteArray:=⟨#[109,97,110]⟩
theorem tz2:sCur.data.toList=Mw.kCur:=rfl
theorem mz1:kx2.data.toList=Mw.gq:=rfl
theorem ny1:sMan.data.toList=Mn.kMan:=rfl
theorem yk3 (o:Option Int):numV o=.tuple #[.int .i64 (o.getD 0),.bool o.isSome]:=by cases o<;>rfl
theorem qv2 (s:List UInt8):∃k:Nat,(Mn.number s Mn.kMan).getD 0=(k:Int)∧k≤1073741824:=by
 cases h:Mn.number s Mn.kMan with
 |none=>exact⟨0,rfl,by omega⟩
 |some v=>
  have hs:s≠[]:=fun e=>by
   subst e;unfold Mn.number at h;rw[if_neg (by decide)]at h
   cases h
  have:=Mn.ww2 h hs;exact⟨v.toNat,by simp;omega,by omega⟩
end
section
open Go Go.RowKit
def put2 (f:Int×Int):List UInt8:=Pn.put f.1.toNat++Pn.put f.2.toNat
theorem wk3 (ns:List Nat):(Pn.list ns).length≤10+ns.length *10:=by
 have h1:=(Pn.jv ns.length).2;have h2:=sv1 ns;simp only[Pn.list,List.length_append];omega
theorem av2 {e:Ed} (h:e.may=true):e.drop.length≤40∧e.add.length≤40∧0≤e.log∧e.log≤1073741824∧e.floor≤281474976710656∧e.cert≤281474976710656∧e.at_≤281474976710656∧e.lease≤281474976710656∧
  (∀n∈e.drop,1≤n∧n≤1073741824)∧(∀f∈e.add,0≤f.1∧f.1≤3∧1≤f.2∧f.2≤1073741824):=by
 simp only[Ed.may,ty1,Bool.and_eq_true,decide_eq_true_eq]at h;obtain⟨⟨⟨⟨⟨h1,h2⟩,h3⟩,h4⟩,h5⟩,h6⟩:=h;refine⟨h1,h2,h3.1,h3.2,h4.1.1.1,h4.1.1.2,h4.1.2,h4.2,fun n hn=>?_,fun f hf=>?_⟩
 ·have:=List.all_eq_true.1 h5 n hn
  simpa [isNum] using this
 ·have:=List.all_eq_true.1 h6 f hf
  simp only[vz,isNum,Bool.and_eq_true,decide_eq_true_eq]at this;exact⟨this.2.1,this.2.2,this.1.1,this.1.2⟩
theorem nq4 (A:Option Addr) (N c0:Nat) (e:Ed) (D:Option Addr) (m d:Nat) (A2:Option Addr) (n c:Nat) (w:World) (hbad:e.may=false) (hm:m≤1000000) (hn:n≤1000000) (hrd:Row w.heap.size w D m 1 (uz e.drop)) (hra:Row w.heap.size w A2 n 2 (dw e.add)):
  Calls Tryz.prog 247 #[.slice A N c0,e.val D m d A2 n c] w fun x w'=>x=.returned (.tuple #[.slice none 0 0,.int .i64 1])∧Below w.heap.size w w':=by
 have hmay:=fun W (h:Below w.heap.size w W)=>zj2 e D m d A2 n c W hm hn ((hrd.below h).up h.size) ((hra.below h).up h.size);rw[hbad]at hmay;unfold Ed.val at *;have HM:=Lib.hid hmay;clear hmay hrd hra;go_enter Tryz.func247,Tryz.ntmps247;have hb0:=(Below.refl w.heap.size w).alloc (Nat.le_refl _) (.cells #[.slice D m d,.slice A2 n c,.int .i64 e.log,.int .u64 (e.floor:Int),.int .u64 (e.cert:Int),.int .u64 (e.at_:Int),.int .u64 (e.lease:Int)] 194);go_wp2_with fail;refine(HM.out _ hb0).mono ?_;rintro x w1 ⟨rfl,hb1⟩;have hbz:=az hb0 hb1;clear hb0 hb1;go_wp2;exact bodyPost_ret (v:=.tuple #[.slice none 0 0,.int .i64 1]) (by simp[results,go_sem]) rfl ⟨rfl,hbz⟩
theorem fk3 (A:Option Addr) (N c0:Nat) (b:List UInt8) (e:Ed) (D:Option Addr) (m d:Nat) (A2:Option Addr) (n c:Nat) (w:World) (hgood:e.may=true) (hrd:Row w.heap.size w D m 1 (uz e.drop)) (hra:Row w.heap.size w A2 n 2 (dw e.add))
  (hN:N≤400000000) (hNc:N≤c0) (hc:c0≤maxLen) (hr:Row w.heap.size w A N 1 (bts b)):
  Calls Tryz.prog 247 #[.slice A N c0,e.val D m d A2 n c] w fun x w'=>∃A' K c',x=.returned (.tuple #[.slice A' K c',.int .i64 0])∧
   w'.ownsRow w.heap.size 5 1 (.slice A' K c') K (bts (b++e.rec_))∧K≤c'∧c'≤maxLen∧Below w.heap.size w w':=by
 have hdl:=hrd.ilen;have hal:=hra.flen;obtain⟨hp1,hp2,hp3,hp4,hp5,hp6,hp7,hp8,hp9,hp10⟩:=av2 hgood;have hbl0:=Ed.cz1 e hgood;have hmay:=fun W (h:Below w.heap.size w W)=>zj2 e D m d A2 n c W (by omega) (by omega) ((hrd.below h).up h.size) ((hra.below h).up h.size);rw[hgood]at hmay;have hrec:e.rec_=Fr.put 6 e.bytes:=rfl;have hbyt:e.bytes=Pn.list (e.drop.map Int.toNat)++Pn.put e.add.length++e.add.flatMap put2++[e.log.toNat,e.floor,e.cert,e.at_,e.lease].flatMap Pn.put:=by
  simp[Ed.bytes];rfl
 rw[hrec];generalize e.bytes=EB at *;obtain⟨ds,fs,G,F,C,AA,L⟩:=e;simp only at hdl hal hp1 hp2 hp3 hp4 hp5 hp6 hp7 hp8 hp9 hp10 hbyt hrd hra;unfold Ed.val at hmay ⊢;simp only at hmay ⊢;obtain⟨g,rfl⟩:∃g:Nat,G=(g:Int):=⟨G.toNat,by omega⟩;rw[Int.toNat_natCast,hal]at hbyt;have HM:=Lib.hid hmay;have HBY:=Lib.hid hbyt;have HBL:=Lib.hid hbl0;have H9:=Lib.hid hp9;have H10:=Lib.hid hp10;clear hmay hbyt hbl0 hp9 hp10 hrec hgood;have hnw:IntKind.u64.wrap (n:Int)=(n:Int):=by rw[IntKind.wrap_u64];omega
 have hgw:IntKind.u64.wrap (g:Int)=(g:Int):=by rw[IntKind.wrap_u64];omega
 obtain⟨j0,hj0,hj1,hj2,hj3⟩:=info_parts (show (Tryz.prog.info? 22).map (fun i=>(i.zero,i.size,i.bytes))=some (some (.int .u64 0),1,8) by kernel_rfl);go_enter Tryz.func247,Tryz.ntmps247;have hb0:=(Below.refl w.heap.size w).alloc (Nat.le_refl _) (.cells #[.slice D m d,.slice A2 n c,.int .i64 (g:Int),.int .u64 (F:Int),.int .u64 (C:Int),.int .u64 (AA:Int),.int .u64 (L:Int)] 194);have hx0:=BoxO.new w #[.slice D m d,.slice A2 n c,.int .i64 (g:Int),.int .u64 (F:Int),.int .u64 (C:Int),.int .u64 (AA:Int),.int .u64 (L:Int)] 194;go_wp2_with fail;refine(HM.out _ hb0).mono ?_;rintro x w1 ⟨rfl,hb1⟩;have hx1:=hx0.below hb1;have hbz:=az hb0 hb1;have hsz1:w.heap.size+1≤w1.heap.size:=by have:=hb1.size;simp at this;omega
 clear hb0 hb1 hx0 HM;have p0:=hx1.cell 0;simp only[gE0]at p0;go_wp2_with fail
 go_loopw [6,20] (fun s x wr=>∃(k:Nat) (A':Option Addr) (cc:Nat),k≤m∧s=.slice A' k cc∧x=.int .i64 (k:Int)∧wr.ownsRow (w.heap.size+1) 22 1 (.slice A' k cc) k (u64v ((ds.take k).map Int.toNat))∧
  BoxO wr 194 w.heap.size [.slice D m d,.slice A2 n c,.int .i64 (g:Int),.int .u64 (F:Int),.int .u64 (C:Int),.int .u64 (AA:Int),.int .u64 (L:Int)]∧Below w.heap.size w wr∧w.heap.size+1≤wr.heap.size) (fun _ x _=>m - (intOf x).toNat)
 case atStart=>exact⟨0,none,0,Nat.zero_le _,rfl,rfl,World.ownsRow_nil _ _ _ _,hx1,hbz,hsz1⟩
 case round=>
  obtain⟨k,A',cc,hk,rfl,rfl,hown,hx,hbl,hsz⟩:=hrel;clear hx1 hbz hsz1 p0
  by_cases hlt:k < m
  ·obtain⟨da,hl,rfl,hdb,hdc⟩:=(hrd.below hbl).int_ hlt
   have hxr:=H9.out ds[k] (List.getElem_mem hl);have htk:ds.take (k+1)=ds.take k++[ds[k]]:=(List.take_append_getElem hl).symm;generalize ds[k]=x at *;obtain⟨q,rfl⟩:∃q:Nat,x=(q:Int):=⟨x.toNat,by omega⟩;have HT:=Lib.hid htk;clear htk hl;have hqw:IntKind.u64.wrap (q:Int)=(q:Int):=by rw[IntKind.wrap_u64];omega
   have hrow:=Row.new (n:=1) (size:=1) wr #[.int .u64 (q:Int)] 22 rfl;go_wp2_with (at_builtin;refine jq ?_);refine gy (lq rfl (.tmp 24) (.tmp 27) _ rfl (w.heap.size+1) 22 j0 _ 1 8 Tryz.underlying341 hj0 hj1 hj2 hj3 rfl (by omega) (wr.alloc (.cells #[.int .u64 (q:Int)] 22)) (Below.refl _ _) (by simp;omega) (.slice A' k cc) k (u64v ((ds.take k).map Int.toNat)) rfl (hown.alloc _) (wr.heap.size+1) _ 1 1 [.int .u64 (q:Int)] rfl hrow (by simp[Value.oneCell']) (k+1) _ rfl rfl (by unfold maxLen;omega) (by omega) ?_);intro A3 c3 w3 ho3 hb3 hg3 hc3 hm3;have hx3:BoxO w3 _ _ _:=(hb3.block _ (by omega)).trans (hx.alloc _);have hbl3:=(hbl.alloc hbl.size (.cells #[.int .u64 (q:Int)] 22)).trans (hb3.mono (by omega));have hsz3:w.heap.size+1≤w3.heap.size:=by have:=hb3.size;simp at this;omega
   clear hown hx hbl hb3 hg3 hrow;go_wp2_with fail;go_roundw
   case rel=>
    refine⟨k+1,A3,c3,by omega,rfl,by go_num,?_,hx3,hbl3,hsz3⟩;rw[HT.out];simpa [u64v] using ho3
   case measure=>simp[intOf];omega
  ·obtain rfl:m=k:=by omega
   have hns:(ds.take m).map Int.toNat=ds.map Int.toNat:=by rw[List.take_of_length_le (by omega)]
   rw[hns]at hown;obtain⟨ns,hnse⟩:∃ns,ns=ds.map Int.toNat:=⟨_,rfl⟩;rw[←hnse]at hown;have hnsl:ns.length=m:=by rw[hnse,List.length_map,hdl]
   have hns64:∀x∈ns,x < 18446744073709551616:=by
    intro x hx;rw[hnse]at hx;obtain⟨y,hy,rfl⟩:=List.mem_map.1 hx;have:=H9.out y hy;omega
   have hby:=HBY.out;rw[←hnse]at hby;have HBY2:=Lib.hid hby;have hrow:=(Row.own hown).drew;have hll:=wk3 ns;have hpl:=(Pn.jv n).2;have HR:=Lib.hid hrow;have HN:=Lib.hid hns64;have hxlt:=hx.lt;have hc1:=hx.cell 1;simp only[gE0,gE1]at hc1;have hd1:∀w2,Below wr.heap.size wr.drew w2→w2.cell? ⟨w.heap.size,1,none⟩=some (.slice A2 n c):=fun w2 h=>(h.cell (p:=⟨w.heap.size,1,none⟩) hxlt).trans hc1;have HD1:=Lib.hid hd1;have HLL:=Lib.hid hll;have HPL:=Lib.hid hpl;have HNL:=Lib.hid hnsl;clear hns hnse hns64 hby HBY hrow hll hpl hnsl hd1 hown;go_upto_region 9 with (fail)
   go_cut [9] (fun s wx=>∃A3 M3 c3,s=.slice A3 M3 c3∧wx.ownsRow w.heap.size 5 1 (.slice A3 M3 c3) M3 (bts (Pn.list ns++Pn.put n))∧M3≤500∧M3≤c3∧c3≤maxLen∧Below wr.heap.size wr wx)
   case first=>
    go_region_with (first
     |(go_at_call 306;refine(oy4 none 0 0 [] A' m cc ns _ (by omega) (by omega) Row.nil_ HR.out HN.out).mono ?_;rintro e w2 ⟨A3,M3,c3,rfl,ho3,hM3,hc3,hb3⟩;have q1:=HD1.out w2 hb3)
     |(go_at_call 251;refine(put_any _ _ _ ([] ++Pn.list ns) n (by omega) _ (by have h1:=ho3.1;rw[vk,List.nil_append]at h1;have:=HLL.out;have:=HNL.out;omega) (Row.own ho3)).mono ?_;rintro e w3 ⟨A4,c4,rfl,ho4,hc4,hm4,hb4⟩))
    all_goals
     go_wp2_with fail
     go_meet
     refine⟨_,_,_,rfl,own_base ho4 (Nat.le_trans hbl.size hb3.size:w.heap.size≤w2.heap.size),?_,hc4,hm4,((Below.refl wr.heap.size wr).drew.trans hb3).trans (hb4.mono hb3.size)⟩;have h1:=ho4.1;have h2:=HLL.out;have h3:=HPL.out;have h4:=HNL.out;rw[vk,List.nil_append,List.length_append]at h1;omega
   case rest=>
    obtain⟨A3,M3,c3,rfl,ho3,hM3,hc3,hm3,hb3⟩:=hcut;have hx3:=hx.below hb3;have hbl3:=az hbl hb3;have hsz3:w.heap.size+1≤wc.heap.size:=by have:=hb3.size;omega
    clear hx hbl hb3 HD1 HR hc1 hsz HN;have p1:=hx3.cell 1;simp only[gE0,gE1]at p1;go_wp2_with fail
    go_loopw [9,40] (fun s x wr=>∃(k:Nat) (A':Option Addr) (M cc:Nat),k≤n∧s=.slice A' M cc∧x=.int .i64 (k:Int)∧wr.ownsRow w.heap.size 5 1 (.slice A' M cc) M (bts (Pn.list ns++Pn.put n++(fs.take k).flatMap put2))∧M≤500+20 *k∧M≤cc∧cc≤maxLen∧
     BoxO wr 194 w.heap.size [.slice D m d,.slice A2 n c,.int .i64 (g:Int),.int .u64 (F:Int),.int .u64 (C:Int),.int .u64 (AA:Int),.int .u64 (L:Int)]∧Below w.heap.size w wr) (fun _ x _=>n - (intOf x).toNat)
    case atStart=>exact⟨0,A3,M3,c3,Nat.zero_le _,rfl,rfl,by simpa using ho3,by omega,hc3,hm3,hx3,hbl3⟩
    case round=>
     obtain⟨k,A5,M5,c5,hk,rfl,rfl,ho5,hM5,hc5,hm5,hx5,hbl5⟩:=hrel;clear ho3 hx3 hbl3 hsz3 p1
     by_cases hlt2:k < n
     ·obtain⟨fa,hl,rfl,hfb,f0,f1⟩:=(hra.below hbl5).file hlt2
      have hxr:=H10.out fs[k] (List.getElem_mem hl);have htk:fs.take (k+1)=fs.take k++[fs[k]]:=(List.take_append_getElem hl).symm;generalize fs[k]=x at *;obtain⟨x0,x1⟩:=x;simp only at hxr f0 f1;obtain⟨lv,rfl⟩:∃q:Nat,x0=(q:Int):=⟨x0.toNat,by omega⟩;obtain⟨nm,rfl⟩:∃q:Nat,x1=(q:Int):=⟨x1.toNat,by omega⟩;have HT:=Lib.hid htk;have hlw:IntKind.u64.wrap (lv:Int)=(lv:Int):=by rw[IntKind.wrap_u64];omega
      have hnmw:IntKind.u64.wrap (nm:Int)=(nm:Int):=by rw[IntKind.wrap_u64];omega
      have hxF:=BoxO.new wr #[.int .i64 (lv:Int),.int .i64 (nm:Int)] 170;have hrW:Row _ _ A5 M5 1 _:=((Row.own ho5).alloc (Nat.le_refl _) (.cells #[.int .i64 (lv:Int),.int .i64 (nm:Int)] 170)).drew;have hbA:=(Below.refl wr.heap.size wr).alloc (Nat.le_refl _) (.cells #[.int .i64 (lv:Int),.int .i64 (nm:Int)] 170);clear htk hl ho5;go_wp2_with fail;change Code.wp _ _ _ _ (wr.alloc (.cells #[.int .i64 (lv:Int),.int .i64 (nm:Int)] 170));have hx7:=hx5.alloc (.cells #[.int .i64 (lv:Int),.int .i64 (nm:Int)] 170);have hbl7:=az hbl5 hbA;generalize wr.alloc (.cells #[.int .i64 (lv:Int),.int .i64 (nm:Int)] 170)=V at *;have hVlt:=hxF.lt;have v0:=hxF.cell 0;have v1:=hxF.cell 1;simp only[gE0,gE1]at v0 v1;have hd:∀w2,Below V.heap.size V.drew w2→w2.cell? ⟨wr.heap.size,0,none⟩=some (.int .i64 (lv:Int))∧w2.cell? ⟨wr.heap.size,1,none⟩=some (.int .i64 (nm:Int)):=fun w2 h=>⟨(h.cell (p:=⟨wr.heap.size,0,none⟩) hVlt).trans v0,(h.cell (p:=⟨wr.heap.size,1,none⟩) hVlt).trans v1⟩;have HD:=Lib.hid hd;have HR5:=Lib.hid (hrW.up (B':=V.drew.heap.size) (Nat.le_of_lt hVlt));have hl1:=(Pn.jv lv).2;have hl2:=(Pn.jv nm).2;have HL1:=Lib.hid hl1;have HL2:=Lib.hid hl2;clear hd hrW hbA hx5 hbl5 hl1 hl2 f0 f1
      go_region_with (first
       |(go_at_call 251;(with_reducible refine(put_any A5 M5 c5 (Pn.list ns++Pn.put n++(fs.take k).flatMap put2) lv (by omega) _ (by omega) HR5.out).mono ?_);rintro e w2 ⟨A6,c6,rfl,ho6,hc6,hm6,hb6⟩;obtain⟨q0,q1⟩:=HD.out w2 hb6)
       |(go_at_call 251;(with_reducible refine(put_any A6 _ c6 (Pn.list ns++Pn.put n++(fs.take k).flatMap put2++Pn.put lv) nm (by omega) _ (by have:=HL1.out;omega) (Row.own ho6)).mono ?_);rintro e w3 ⟨A7,c7,rfl,ho7,hc7,hm7,hb7⟩))
      all_goals
       have hbe:=((Below.refl V.heap.size V).drew.trans hb6).trans (hb7.mono hb6.size);have hx8:=hx7.below hbe;have hbl8:=az hbl7 hbe;have ho8:=own_base (base':=w.heap.size) ho7 (Nat.le_trans hbl7.size hb6.size);clear hb6 hb7 hbe hx7 hbl7 ho6 ho7 hxF HR5 HD v0 v1;go_wp2_with fail;go_roundw
       case rel=>
        refine⟨k+1,A7,_,c7,by omega,rfl,by go_num,?_,by have h1:=HL1.out;have h2:=HL2.out;omega,hc7,hm7,hx8,hbl8⟩;rw[HT.out];simpa [put2,List.append_assoc] using ho8
       case measure=>simp[intOf];omega
     ·obtain rfl:n=k:=by omega
      have hfs:fs.take n=fs:=List.take_of_length_le (by omega);rw[hfs]at ho5;have p2:=hx5.cell 2;have p3:=hx5.cell 3;have p4:=hx5.cell 4;have p5:=hx5.cell 5;have p6:=hx5.cell 6;simp only[gE0,gE1]at p2 p3 p4 p5 p6;have hM6:M5≤1300:=by omega
      clear hfs hx5 hlt2 hM5;go_wp2_with fail;have hb5:=hbl5.alloc hbl5.size (.cells #[.int .u64 (g:Int),.int .u64 (F:Int),.int .u64 (C:Int),.int .u64 (AA:Int),.int .u64 (L:Int)] 22);have hrow:=jq2 wr 22 #[.int .u64 (g:Int),.int .u64 (F:Int),.int .u64 (C:Int),.int .u64 (AA:Int),.int .u64 (L:Int)] [g,F,C,AA,L] 5 rfl rfl;have ho6:=ho5.alloc (.cells #[.int .u64 (g:Int),.int .u64 (F:Int),.int .u64 (C:Int),.int .u64 (AA:Int),.int .u64 (L:Int)] 22);clear p2 p3 p4 p5 p6 ho5 hbl5;change Code.wp _ _ _ _ (wr.alloc (.cells #[.int .u64 (g:Int),.int .u64 (F:Int),.int .u64 (C:Int),.int .u64 (AA:Int),.int .u64 (L:Int)] 22));generalize wr.alloc (.cells #[.int .u64 (g:Int),.int .u64 (F:Int),.int .u64 (C:Int),.int .u64 (AA:Int),.int .u64 (L:Int)] 22)=V at *;generalize wr.heap.size=hp at *;have hns:∀n∈[g,F,C,AA,L],n < 18446744073709551616:=by
       intro n hn;simp at hn;omega
      have hby:=HBY2.out;have hnl:[g,F,C,AA,L].length=5:=rfl;have HN:=Lib.hid hns;have HNL:=Lib.hid hnl;generalize hnsd:[g,F,C,AA,L]=vs at *;have HBY3:=Lib.hid hby;have HD:=Lib.hid hnsd;clear hns hby HBY2 hnl hnsd hgw hnw;obtain⟨LL,hLL⟩:∃LL,LL=Pn.list ns++Pn.put n++fs.flatMap put2:=⟨_,rfl⟩;rw[←hLL]at ho6;have hby4:=HBY3.out;rw[←hLL]at hby4;have HBY4:=Lib.hid hby4;clear hLL hby4 HBY3
      go_loopw [9,67] (fun s x wr3=>∃(k:Nat) (A':Option Addr) (M c':Nat),k≤5∧s=.slice A' M c'∧x=.int .i64 (k:Int)∧M≤1300+10 *k∧wr3.ownsRow w.heap.size 5 1 (.slice A' M c') M (bts (LL++(vs.take k).flatMap Pn.put))∧M≤c'∧c'≤maxLen∧Below V.heap.size V wr3) (fun _ x _=>5 - (intOf x).toNat)
      case atStart=>exact⟨0,A5,M5,c5,by omega,rfl,rfl,by omega,by simpa using ho6,hc5,hm5,Below.refl _ _⟩
      case round=>
       obtain⟨k,A',M,c',hk,rfl,rfl,hM,hown,hMc,hcm,hbV⟩:=hrel
       by_cases hlt2:k < 5
       ·obtain⟨aa,hl,he,hab,hc⟩:=(hrow.below hbV).un hlt2
        injection he with he;subst he;have hxl:=HN.out vs[k] (List.getElem_mem hl);have htk:vs.take (k+1)=vs.take k++[vs[k]]:=(List.take_append_getElem hl).symm;generalize vs[k]=x at *;have HT:=Lib.hid htk;clear htk;rw[mx2]at hc;go_wp2_with fail;refine(put_any A' M c' _ x hxl wr (by omega) (Row.own hown)).mono ?_;rintro e w2 ⟨A3,c3,rfl,ho3,hc3,hm3,hb3⟩;have hpl:=(Pn.jv x).2;have ho3':=own_base ho3 (Nat.le_trans hb5.size hbV.size);have HPL:=Lib.hid hpl;clear hpl ho3;go_wp2_with fail;go_roundw
        case rel=>
         refine⟨k+1,A3,M+(Pn.put x).length,c3,by omega,rfl,by go_num,by have h:=HPL.out;omega,?_,hc3,hm3,az hbV hb3⟩;rw[HT.out];simpa [List.append_assoc] using ho3'
        case measure=>simp[intOf];omega
       ·obtain rfl:k=5:=by omega
        have hfin:LL++(vs.take 5).flatMap Pn.put=EB:=by
         rw[List.take_of_length_le (by have:=HNL.out;omega)];exact HBY4.out.symm
        rw[hfin]at hown;have hbw:=hb5.trans (hbV.mono hb5.size);have hEB:=HBL.out;clear hfin hrow ho6 hbV hb5;have hq:=Row.own hown;clear hown;go_wp2_with fail;refine(kw2 A N c0 b 6 A' M c' _ wr (by omega) hNc hc ((hr.below hbw).up hbw.size) (by decide) (by decide) (by omega) hMc hcm hq).mono ?_;rintro e w2 ⟨A3,K,c3,rfl,ho3,hc3,hm3,hb3⟩;have ho3':=own_base ho3 hbw.size;have hbz:=az hbw hb3;clear ho3 hb3;go_wp2;exact bodyPost_ret (v:=.tuple #[.slice A3 K c3,.int .i64 0]) (by simp[results,go_sem]) rfl ⟨A3,K,c3,rfl,ho3',hc3,hm3,hbz⟩
end
section
open Go Go.RowKit Go.Shelf
variable {P:Sl} {m:Nat} {X X1:Dw} {w w1 w2:World} {S S1:Sd} {M M1:Gs}
theorem nw2 (nm:ByteArray) (hnm:nm.size≤1000) (hv:M.v.ok=true) (hld:S.load≤1000000000000) (h0:Gst P m X w S M w X):
  Calls Tryz.prog 178 #[.pointer (some ⟨m,0,none⟩),.string nm] w (fv1 P m X w (Gw.rewrite S M nm.data.toList)):=by
 have hmk:=h0.man;have c0:=hmk.cell 0;have c2:=hmk.cell 2;have c3:=hmk.cell 3;have c4:=hmk.cell 4;have c5:=hmk.cell 5;have c6:=hmk.cell 6;have c7:=hmk.cell 7;simp only[Gs.cells,gE0,gE1]at c0 c2 c3 c4 c5 c6 c7;obtain⟨R,hR⟩:∃R,R=Gw.rewrite S M nm.data.toList:=⟨_,rfl⟩;rw[←hR];have hrl:=Ed.rq1 (Vw.kj1 hv);have hput:=fun A n c W hr=>fk3 none 0 0 [] M.v.whole none 0 0 A n c W (Vw.kj1 hv) Row.nil_ hr (by omega) (by omega) (by unfold maxLen;omega) Row.nil_;have hwh:=uy3 M.v P.a P.n P.c w (by have:=h0.row.nb;omega) h0.row.row;have hRR:R=if (S.write nm.data.toList M.v.whole.rec_).2≠0 then ((S.write nm.data.toList M.v.whole.rec_).1,M,(S.write nm.data.toList M.v.whole.rec_).2) else Gw.tmp (S.write nm.data.toList M.v.whole.rec_).1 M nm.data.toList:=hR
 have hrec:([]:List UInt8)++M.v.whole.rec_=M.v.whole.rec_:=rfl;rw[hrec]at hput;unfold Vw.val at hwh;unfold Ed.val at hwh hput;have HR:=Lib.hid hRR;have HP:=Lib.hid hput;clear hR hput hRR hrec;go_enter Tryz.func178,Tryz.ntmps178;go_wp2_with fail;refine hwh.mono ?_;rintro e w1 ⟨A1,n1c,rfl,hfr,hb1⟩;have h1:=h0.below hb1;have hput:=HP.out A1 P.n n1c w1 hfr.row;clear hwh hfr HP;go_wp2_with fail;refine hput.mono ?_;rintro e w2 ⟨A,K,c,rfl,hown,hKc,hcm,hb2⟩;have h2:=h1.below hb2;have hrow:=Row.own hown;have hKl:K≤1099511627776:=by
  have e1:=hrow.yz;omega
 have hA:∀a,A=some a→a.block∉X.foot:=fun a ha hm=>by
  obtain⟨A',c',e,_,_,h6⟩:=ay hown;injection e with e _ _;have h7:=(h6 a (by rw[←e];exact ha)).1;have h8:=h1.acc.dm.dk.lt _ hm;omega
 have hwr:=h2.write nm (by unfold maxLen;omega) A K c M.v.whole.rec_ hKl (by omega) hrow hA;have hld1:=Sd.lk1 S nm.data.toList M.v.whole.rec_;have HWR:=Lib.hid hwr;have HST:R=if (S.write nm.data.toList M.v.whole.rec_).2≠0 then ((S.write nm.data.toList M.v.whole.rec_).1,M,(S.write nm.data.toList M.v.whole.rec_).2) else Gw.tmp (S.write nm.data.toList M.v.whole.rec_).1 M nm.data.toList:=HR.out
 clear hwr HR hput hA hown hrow hb1 hb2;generalize S.write nm.data.toList M.v.whole.rec_=PP at *;obtain⟨S1,e1⟩:=PP;simp only at HST hld1;have HS:=Lib.hid HST;clear HST;go_wp2_with fail;refine HWR.out.mono ?_;rintro e w3 ⟨rfl,X3,h3⟩
 by_cases q1:e1=0
 case neg=>
  have hne:=neq0 q1;have hh:=HS.out;rw[if_pos q1]at hh;have hl:=Lib.hid (fv1.mk_ hh h3);clear hh;go_wp2;go_ret;exact hl.out
 subst q1;have HS2:Hid (R=Gw.tmp S1 M nm.data.toList):=HS.out.trans (if_neg (by simp));have hrd:=h3.read kx2 (by decide);rw[mz1]at hrd;unfold kx2 at hrd;have HRD:=Lib.hid hrd;clear hrd HS HWR;go_wp2_with fail;refine HRD.out.mono ?_;rintro e w4 ⟨A4,c4,rfl,hb4⟩;have h4:=h3.below hb4;clear HRD hb4;generalize hE:(S1.read Mw.gq).2=er2;generalize (S1.read Mw.gq).1.length=ln2;have HE:=Lib.hid hE;clear hE;go_upto_if 53 with (fail)
 go_cut [] (fun wx=>∃S2 X2,Gst P m X w S2 M wx X2∧Hid (R=Gw.hd S2 M nm.data.toList)∧S2.load≤S.load+3)
 case first=>
  by_cases q2:er2=0
  ·subst q2
   have hrm:=h4.remove kx2 (by decide) (by omega);rw[mz1]at hrm;unfold kx2 at hrm;have hl2:=Sd.dj1 S1 Mw.gq;have HT:R=if (S1.remove Mw.gq).2≠0 then ((S1.remove Mw.gq).1,M,(S1.remove Mw.gq).2) else Gw.hd (S1.remove Mw.gq).1 M nm.data.toList:=HS2.out.trans (if_pos HE.out)
   generalize S1.remove Mw.gq=PP at *;obtain⟨S2,e2⟩:=PP;simp only at HT hl2;have HRM:=Lib.hid hrm;have HT2:=Lib.hid HT;clear hrm HT;go_wp2_with fail;refine HRM.out.mono ?_;rintro e w5 ⟨rfl,X5,h5⟩
   by_cases q3:e2=0
   ·subst q3
    have HT3:Hid (R=Gw.hd S2 M nm.data.toList):=HT2.out.trans (if_neg (by simp));go_wp2_with fail
    go_meet
    case rel=>exact⟨S2,X5,h5,HT3,by omega⟩
   ·have hne:=neq0 q3
    have hh:=HT2.out;rw[if_pos q3]at hh;have hl:=Lib.hid (fv1.mk_ hh h5);clear hh;go_wp2;go_ret;exact hl.out
  ·have q3:(((er2:Int))==0)=false:=by simp[q2]
   have HT3:Hid (R=Gw.hd S1 M nm.data.toList):=HS2.out.trans (if_neg (by rw[HE.out];exact q2));go_wp2_with fail
   go_meet
   case rel=>exact⟨S1,X3,h4,HT3,by omega⟩
 case rest=>
  obtain⟨S2,X5,h5,HT3,hl3⟩:=hcut;clear h4 HS2 HE h3 h2 h1 hld1;have hnum:=qx1 nm sMan (by omega) (by decide) wc h5.acc.dm.env;rw[ny1,yk3]at hnum;obtain⟨k,hk,hk2⟩:=qv2 nm.data.toList;rw[hk]at hnum;have HK:=Lib.hid hk;unfold sMan at hnum;have HN:=Lib.hid hnum;clear hnum hk;go_wp2_with fail;refine HN.out.mono ?_;rintro e w6 ⟨rfl,hb6⟩;have h6:=h5.below hb6;have hp:=put_any none 0 0 [] k (by omega) w6 (by omega) Row.nil_;simp only[Nat.zero_add,List.nil_append]at hp;clear HN h5 hb6;go_wp2_with fail;refine hp.mono ?_;rintro e w7 ⟨A7,c7',rfl,hown7,hc7,hm7,hb7⟩;have h7:=h6.below hb7;have hpl:=Pn.jv k;have hf:=kw2 none 0 0 [] 8 A7 (Pn.put k).length c7' (Pn.put k) w7 (by omega) (by omega) (by unfold maxLen;omega) Row.nil_ (by omega) (by omega) (by omega) hc7 hm7 (Row.own hown7);rw[show ((8:Nat):Int)=8 from rfl]at hf;simp only[List.nil_append]at hf;clear hp hown7;go_wp2_with fail;refine hf.mono ?_;rintro e w8 ⟨A8,K8,c8,rfl,hown8,hK8,hm8,hb8⟩;have h8:=h7.below hb8;have hhead:Fr.put 8 (Pn.put k)=Mw.headB ((Mn.number nm.data.toList Mn.kMan).getD 0):=by
   rw[HK.out];rfl
  rw[hhead]at hown8;have hrow8:=Row.own hown8;have hKl:K8≤1099511627776:=by
   have e1:=hrow8.yz;have:=ax2 ((Mn.number nm.data.toList Mn.kMan).getD 0);omega
  have hA:∀a,A8=some a→a.block∉X5.foot:=fun a ha hm=>by
   obtain⟨A',c',e,_,_,h6⟩:=ay hown8;injection e with e _ _;have h9:=(h6 a (by rw[←e];exact ha)).1;have h10:=h7.acc.dm.dk.lt _ hm;omega
  have hwr:=h8.write kx2 (by decide) A8 K8 c8 _ hKl (by omega) hrow8 hA;rw[mz1]at hwr;unfold kx2 at hwr;have hl4:=Sd.lk1 S2 Mw.gq (Mw.headB ((Mn.number nm.data.toList Mn.kMan).getD 0));have HT4:R=if (S2.write Mw.gq (Mw.headB ((Mn.number nm.data.toList Mn.kMan).getD 0))).2≠0 then ((S2.write Mw.gq (Mw.headB ((Mn.number nm.data.toList Mn.kMan).getD 0))).1,M,(S2.write Mw.gq (Mw.headB ((Mn.number nm.data.toList Mn.kMan).getD 0))).2)
   else Gw.sd1 (S2.write Mw.gq (Mw.headB ((Mn.number nm.data.toList Mn.kMan).getD 0))).1 M nm.data.toList:=HT3.out
  generalize S2.write Mw.gq (Mw.headB ((Mn.number nm.data.toList Mn.kMan).getD 0))=PP at *;obtain⟨S3,e3⟩:=PP;simp only at HT4 hl4;have HWR:=Lib.hid hwr;have HS4:=Lib.hid HT4;clear hwr HT4 hown8 hrow8 hA hhead hf hKl HT3 hb7 hb8 h7 h6;go_wp2_with fail;refine HWR.out.mono ?_;rintro e w9 ⟨rfl,X9,h9⟩
  by_cases q3:e3=0
  case neg=>
   have hne:=neq0 q3;have hh:=HS4.out;rw[if_pos q3]at hh;have hl:=Lib.hid (fv1.mk_ hh h9);clear hh;go_wp2;go_ret;exact hl.out
  subst q3;have HS5:Hid (R=Gw.sd1 S3 M nm.data.toList):=HS4.out.trans (if_neg (by simp));have hsd:=h9.ax;have hl5:=Sd.ex1 S3;have HT5:R=if (S3.ax).2≠0 then ((S3.ax).1,M,(S3.ax).2) else Gw.ren (S3.ax).1 M nm.data.toList:=HS5.out
  generalize S3.ax=PP at *;obtain⟨S4,e4⟩:=PP;simp only at HT5 hl5;have HSD:=Lib.hid hsd;have HS6:=Lib.hid HT5;clear hsd HT5 HS5 HS4 HWR h8;go_wp2_with fail;refine HSD.out.mono ?_;rintro e w10 ⟨rfl,X10,h10⟩
  by_cases q4:e4=0
  case neg=>
   have hne:=neq0 q4;have hh:=HS6.out;rw[if_pos q4]at hh;have hl:=Lib.hid (fv1.mk_ hh h10);clear hh;go_wp2;go_ret;exact hl.out
  subst q4;have HS7:Hid (R=Gw.ren S4 M nm.data.toList):=HS6.out.trans (if_neg (by simp));have hrn:=h10.rename kx2 sCur (by decide) (by decide) (by omega);rw[mz1,tz2]at hrn;unfold kx2 sCur at hrn;have hl6:=Sd.yk1 S4 Mw.gq Mw.kCur;have HT6:R=if (S4.rename Mw.gq Mw.kCur).2≠0 then ((S4.rename Mw.gq Mw.kCur).1,M,(S4.rename Mw.gq Mw.kCur).2) else Gw.fin (S4.rename Mw.gq Mw.kCur).1 M nm.data.toList:=HS7.out
  generalize S4.rename Mw.gq Mw.kCur=PP at *;obtain⟨S5,e5⟩:=PP;simp only at HT6 hl6;have HRN:=Lib.hid hrn;have HS8:=Lib.hid HT6;clear hrn HT6 HS7 HS6 HSD h9;go_wp2_with fail;refine HRN.out.mono ?_;rintro e w11 ⟨rfl,X11,h11⟩
  by_cases q5:e5=0
  case neg=>
   have hne:=neq0 q5;have hh:=HS8.out;rw[if_pos q5]at hh;have hl:=Lib.hid (fv1.mk_ hh h11);clear hh;go_wp2;go_ret;exact hl.out
  subst q5;have HS9:Hid (R=Gw.fin S5 M nm.data.toList):=HS8.out.trans (if_neg (by simp));have f1:=h11.man.free 1;have f8:=h11.man.free 8;have d1:=h11.man.cell 1;have d8:=h11.man.cell 8;simp only[Gs.cells,gE0,gE1]at d1 d8;have hmk2:GK ((w11.setCell ⟨m,1,none⟩ (.string nm)).setCell ⟨m,8,none⟩ (.int .i64 1)) m X.d { M with name:=nm.data.toList,count:=1 } P:=by
   have h12:=(h11.man.store 1 (.string nm)).store 8 (.int .i64 1);unfold GK Gs.cells;simp only[by1];exact h12
  have h12:=h11.turn (((Chg.refl [m] w11).setCell _ (.inl (by simp))).setCell _ (.inl (by simp))) hmk2 rfl;have hsd2:=h12.ax;have hl7:=Sd.ex1 S5;have HT7:R=if (S5.ax).2≠0 then ((S5.ax).1,{ M with name:=nm.data.toList,count:=1,broken:=true },(S5.ax).2)
   else (Mw.sweep nm.data.toList (S5.ax).1.list (S5.ax).1,{ M with name:=nm.data.toList,count:=1 },0):=HS9.out
  generalize S5.ax=PP at *;obtain⟨S6,e6⟩:=PP;simp only at HT7 hl7;have HSD2:=Lib.hid hsd2;have HS10:=Lib.hid HT7;clear hsd2 HT7 HS9 HS8 HRN h10 hmk2;go_wp2_with fail;refine HSD2.out.mono ?_;rintro e w13 ⟨rfl,X13,h13⟩
  by_cases q6:e6=0
  case neg=>
   have hne:=neq0 q6;have hh:=HS10.out;rw[if_pos q6]at hh;have HH:=Lib.hid hh;clear hh d1 d8 f1 f8 h11 h12;go_wp2_with fail;refine h13.ry4.mono ?_;rintro e w14 ⟨rfl,h14⟩;have hl:=Lib.hid (fv1.mk_ HH.out h14);go_wp2;go_ret;exact hl.out
  subst q6;have HS11:Hid (R=(Mw.sweep nm.data.toList S6.list S6,{ M with name:=nm.data.toList,count:=1 },0)):=HS10.out.trans (if_neg (by simp));have hli:=h13.acc.list;have hnml:=lv1 h13.acc.dm.wf;have hlen:=oz1 h13.acc.dm.wf;obtain⟨L,hL⟩:∃L,L=S6.list:=⟨_,rfl⟩;rw[←hL]at hli hnml hlen HS11;have HNM:=Lib.hid hnml;have HLI:=Lib.hid hli;clear hL hnml hli HS10 HSD2 d1 d8 f1 f8 h11 h12;go_wp2_with fail;refine HLI.out.mono ?_;rintro e w14 ⟨A14,c14,rfl,hown14,hb14⟩;have h14:=h13.below hb14;have hcap:L.length≤c14:=by
   obtain⟨A',c',e,h1,_⟩:=ay hown14;injection e with _ e2 e3;omega
  have hA14:∀a,A14=some a→a.block∉[m] ++X13.foot:=fun a ha hm=>by
   obtain⟨A',c',e,_,_,h6⟩:=ay hown14;injection e with e _ _;have h15:=(h6 a (by rw[←e];exact ha)).1
   rcases List.mem_append.1 hm with h16|h16
   ·have:=h13.man.lt
    rw[List.mem_singleton.1 h16]at h15;omega
   ·have:=h13.acc.dm.dk.lt _ h16
    omega
  have hrow14:=Row.own hown14;have h15:=h14.anew;have HA:=Lib.hid hA14;clear hown14 hb14 HLI hA14 h13;go_wp2
  go_loopw [104] (fun i wr=>∃(j:Nat) (Sj:Sd) (Xj:Dw),j≤L.length∧i=.int .i64 (j:Int)∧Gst P m X13 w14 Sj { M with name:=nm.data.toList,count:=1 } wr Xj∧Hid (Mw.sweep nm.data.toList L S6=Mw.sweep nm.data.toList (L.drop j) Sj)∧Sj.load≤S6.load+j) (fun i _=>L.length - (intOf i).toNat)
  case atStart=>exact⟨0,S6,X13,Nat.zero_le _,rfl,h15,rfl,Nat.le_refl _⟩
  case round=>
   obtain⟨j,Sj,Xj,hj,rfl,hMj,HSW,hlj⟩:=hrel
   by_cases hlt:j < L.length
   ·have hrow:=Row.lw2 hrow14 hMj.acc.c (Nat.le_refl _) HA.out
    obtain⟨a,hl',rfl,_,hcl⟩:=hrow.enc hlt;have hsn:=HNM.out _ (List.getElem_mem hl');have hsl:=dw1 hsn;have hdrop:L.drop j=L[j]::L.drop (j+1):=List.drop_eq_getElem_cons hl';have hst:Mw.sweep nm.data.toList L S6=Mw.sweep nm.data.toList (L.drop (j+1)) (if (Mn.number L[j] Mn.kMan).isSome&&!(L[j]==nm.data.toList) then (Sj.remove L[j]).1 else Sj):=by
     rw[show Mw.sweep nm.data.toList L S6=_ from HSW.out,hdrop];rfl
    have HST:=Lib.hid hst;have hnum:=qx1 (str L[j]) sMan (by rw[qx];omega) (by decide) wr hMj.acc.dm.env;rw[rq,ny1,yk3]at hnum;unfold sMan at hnum;have hrem:=fun w2 (hb:Below wr.heap.size wr w2)=>(hMj.below hb).remove (str L[j]) (by rw[qx];unfold maxLen;omega) (by omega);have hrl:=Sd.dj1 Sj L[j];rw[rq]at hrem;have hxd:=h15.acc.e;have hxe:=h14.acc.e;rw[hxe]at hrem;have HRM:=Lib.hid hrem;have HNU:=Lib.hid hnum;have hbq:((str L[j]).toList==nm.toList)=(L[j]==nm.data.toList):=by
     rw[ByteArray.toList_eq,ByteArray.toList_eq,rq]
    have HBQ:=Lib.hid hbq;clear hrem hnum hst hdrop hsn hrow hxd hxe hbq;generalize L[j]=s at *;go_wp2_with fail;refine HNU.out.mono ?_;rintro e w16 ⟨rfl,hb16⟩
    cases hns:Mn.number s Mn.kMan with
    |none=>
     rw[hns]at HST;have h17:=hMj.below hb16;clear hns HNU HRM hcl;go_wp2;go_roundw
     case rel=>exact⟨j+1,Sj,Xj,by omega,by go_num,h17,HST,by omega⟩
     case measure=>simp[intOf];omega
    |some v=>
     rw[hns]at HST
     cases hq:(s==nm.data.toList) with
     |true=>
      have q1:((str s).toList==nm.toList)=true:=by rw[HBQ.out,hq]
      rw[hq]at HST;have h17:=hMj.below hb16;clear hns HNU HRM hcl hq;go_wp2;go_roundw
      case rel=>exact⟨j+1,Sj,Xj,by omega,by go_num,h17,HST,by omega⟩
      case measure=>simp[intOf];omega
     |false=>
      have q1:((str s).toList==nm.toList)=false:=by rw[HBQ.out,hq]
      rw[hq]at HST;have hrm:=HRM.out w16 hb16;have hst2:Mw.sweep nm.data.toList L S6=Mw.sweep nm.data.toList (L.drop (j+1)) (Sj.remove s).1:=HST.out;generalize Sj.remove s=PP at *;have HST2:=Lib.hid hst2;have HRM2:=Lib.hid hrm;clear hns HNU HRM hcl hq hrm hst2 HST;go_wp2_with fail;refine HRM2.out.mono ?_;rintro e w17 ⟨rfl,X17,h17⟩;go_wp2;go_roundw
      case rel=>exact⟨j+1,PP.1,X17,by omega,by go_num,h17,HST2,by omega⟩
      case measure=>simp[intOf];omega
   ·have e1:L.drop j=[]:=List.drop_eq_nil_of_le (by omega)
    have hR2:R=(Sj,{ M with name:=nm.data.toList,count:=1 },0):=by
     have:=HSW.out;rw[e1]at this;rw[show R=_ from HS11.out,this];rfl
    have hl:=Lib.hid (fv1.mk_ hR2 (h14.trans hMj));clear e1 hR2 hrow14;go_wp2;go_ret;exact hl.out
end
section
open Go Go.RowKit Go.Shelf
variable {m:Nat} {X X1:Dw} {w w1 w2:World} {S S1:Sd} {M M1:Ms}
end
section
open Go Go.RowKit Go.Shelf
variable {m:Nat} {X X1:Dw} {w w1 w2:World} {S S1:Sd} {M M1:Ms}
end
section
open Go Go.RowKit Go.Shelf
variable {m:Nat} {X X1:Dw} {w w1 w2:World} {S S1:Sd} {M M1:Ms}
theorem sj3 (n:Int):(Mn.name Mn.kMan n).length≤1000:=by
 by_cases hne:Mn.name Mn.kMan n=[]
 ·rw[hne];simp
 ·have:=Mn.ev3 hne
  omega
end
section
open Go Go.RowKit Go.Shelf
variable {P:Sl} {m:Nat} {X X1:Dw} {w w1 w2:World} {S S1:Sd} {M M1:Gs}
theorem nj3 (xd:Nat) (h:GK w m xd M P):Calls Tryz.prog 254 #[.pointer (some ⟨m,0,none⟩)] w fun e w'=>e=.returned (.string (str M.name))∧w=w':=by
 have c1:=h.cell 1;simp only[Gs.cells,gE0,gE1]at c1;go_enter Tryz.func254,Tryz.ntmps254;go_wp2;go_ret;exact⟨rfl,rfl⟩
theorem px2 (xd:Nat) (h:GK w m xd M P):Calls Tryz.prog 208 #[.pointer (some ⟨m,0,none⟩)] w fun e w'=>e=.returned (.bool M.broken)∧w=w':=by
 have c1:=h.cell 12;simp only[Gs.cells,gE0,gE1]at c1;go_enter Tryz.func208,Tryz.ntmps208;go_wp2;go_ret;exact⟨rfl,rfl⟩
theorem rv1 (xd:Nat) (h:GK w m xd M P) (hr:Row w.heap.size w P.a P.n 2 (dw M.v.files)) (hn:P.n≤10000):Calls Tryz.prog 81 #[.pointer (some ⟨m,0,none⟩)] w fun e w'=>∃A c,e=.returned (M.v.val A P.n c)∧ez1 w.heap.size w' A P.n c M.v.files∧Below w.heap.size w w':=by
 have hlt:=h.lt;have h1:GK (w.alloc (.cells #[.int .i64 0,.slice none 0 0,.int .u64 0,.int .u64 0,.int .u64 0,.int .u64 0] 86)) m xd M P:=BoxO.alloc h _;have hr1:=(hr.alloc (Nat.le_refl _) (.cells #[.int .i64 0,.slice none 0 0,.int .u64 0,.int .u64 0,.int .u64 0,.int .u64 0] 86)).up (B':=(w.alloc (.cells #[.int .i64 0,.slice none 0 0,.int .u64 0,.int .u64 0,.int .u64 0,.int .u64 0] 86)).heap.size) (by simp);have c2:=h1.cell 2;have c3:=h1.cell 3;have c4:=h1.cell 4;have c5:=h1.cell 5;have c6:=h1.cell 6;have c7:=h1.cell 7;have hbx:=BoxO.new w #[.int .i64 0,.slice none 0 0,.int .u64 0,.int .u64 0,.int .u64 0,.int .u64 0] 86;simp only[Gs.cells,gE0,gE1]at c2 c3 c4 c5 c6 c7;have how:=tq3 M.v P.a P.n P.c _ (by omega) hr1;have hb0:Below w.heap.size w (w.alloc (.cells #[.int .i64 0,.slice none 0 0,.int .u64 0,.int .u64 0,.int .u64 0,.int .u64 0] 86)):=(Below.refl _ _).alloc (Nat.le_refl _) _;unfold Vw.val at *;generalize hV:w.alloc (.cells #[.int .i64 0,.slice none 0 0,.int .u64 0,.int .u64 0,.int .u64 0,.int .u64 0] 86)=V at *;go_enter Tryz.func81,Tryz.ntmps81;go_wp2_with fail;refine how.mono ?_;rintro e w1 ⟨A1,c1,rfl,hfr,hb1⟩;have hb2:=az hb0 hb1;have hbx1:=hbx.below hb1;have hlt1:=hbx1.lt;have hfr1:=hfr.base hb0.size;have f0:=hbx1.free 0;have f1:=hbx1.free 1;have f2:=hbx1.free 2;have f3:=hbx1.free 3;have f4:=hbx1.free 4;have f5:=hbx1.free 5;have g0:=hbx1.cell 0;have g1:=hbx1.cell 1;have g2:=hbx1.cell 2;have g3:=hbx1.cell 3;have g4:=hbx1.cell 4;have g5:=hbx1.cell 5;simp only[gE0,gE1]at g0 g1 g2 g3 g4 g5;have hst:=(((((hb2.setCell (p:=⟨w.heap.size,0,none⟩) (Nat.le_refl _) (.int .i64 M.v.log)).setCell (p:=⟨w.heap.size,1,none⟩) (Nat.le_refl _) (.slice A1 P.n c1)).setCell (p:=⟨w.heap.size,2,none⟩) (Nat.le_refl _) (.int .u64 (M.v.floor:Int))).setCell (p:=⟨w.heap.size,3,none⟩) (Nat.le_refl _) (.int .u64 (M.v.cert:Int))).setCell (p:=⟨w.heap.size,4,none⟩) (Nat.le_refl _) (.int .u64 (M.v.at_:Int))).setCell (p:=⟨w.heap.size,5,none⟩) (Nat.le_refl _) (.int .u64 (M.v.lease:Int));have hcg:Chg [w.heap.size] w1 ((((((w1.setCell ⟨w.heap.size,0,none⟩ (.int .i64 M.v.log)).setCell ⟨w.heap.size,1,none⟩ (.slice A1 P.n c1)).setCell ⟨w.heap.size,2,none⟩ (.int .u64 (M.v.floor:Int))).setCell ⟨w.heap.size,3,none⟩ (.int .u64 (M.v.cert:Int))).setCell ⟨w.heap.size,4,none⟩ (.int .u64 (M.v.at_:Int))).setCell ⟨w.heap.size,5,none⟩ (.int .u64 (M.v.lease:Int))):=
  ((((((Chg.refl [w.heap.size] w1).setCell _ (.inl (by simp))).setCell _ (.inl (by simp))).setCell _ (.inl (by simp))).setCell _ (.inl (by simp))).setCell _ (.inl (by simp))).setCell _ (.inl (by simp))
 have hVs:V.heap.size=w.heap.size+1:=by rw[←hV];simp
 have hfr2:=hfr1.chg hcg (fun a ha hm=>by have:=hfr.low a ha;simp at hm;omega);have HS:=Lib.hid hst;have HF:=Lib.hid hfr2;clear hst hbx1 hbx hb1 hb2 hb0 how h1 c2 c3 c4 c5 c6 c7 hcg hfr hfr1 hfr2 hr1 hr hV hVs;go_wp2;exact bodyPost_ret (v:=.agg #[.int .i64 M.v.log,.slice A1 P.n c1,.int .u64 (M.v.floor:Int),.int .u64 (M.v.cert:Int),.int .u64 (M.v.at_:Int),.int .u64 (M.v.lease:Int)]) (by simp[results,Tryz.results81,go_sem,g0,g1,g2,g3,g4,g5]) rfl ⟨A1,c1,rfl,HF.out,HS.out⟩
end
end Go.Proofs.YthjdpplgfdihoaaGreatDoor
