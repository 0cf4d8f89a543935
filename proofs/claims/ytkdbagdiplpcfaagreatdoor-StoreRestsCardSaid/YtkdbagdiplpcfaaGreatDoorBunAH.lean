/- Some of the texts. No conditions. -/
import Derived.Test.YtkdbagdiplpcfaaGreatDoorBunAF
import Derived.Test.YtkdbagdiplpcfaaGreatDoorBunAD
import Derived.StillTailTactics

set_option linter.unusedSimpArgs false
set_option linter.unusedVariables false
set_option maxRecDepth 100000
set_option maxHeartbeats 16000000
namespace Go.Proofs.YtkdbagdiplpcfaaGreatDoor
open Go.Proofs.Tryz Go Go.RowKit Go.Lib Go.Shelf
section
open Go.Maps
theorem ew2:(prog.info? 214).map (fun i=>(i.zero,i.size,i.bytes))=some (some (.agg #[.int .i64 0,.int .i64 0,.string ⟨#[]⟩,.string ⟨#[]⟩]),4,48):=by kernel_rfl
theorem gk1 {C w4:World} {X:Dw} {S:Sd} {o:Obj} (h:DK C X S) (E:((C.alloc o).drew).grownBy w4 X.tv.ownBlock):BoxO w4 114 X.d (X.cells S):=
 ((h.box.alloc o).drew).chg (Chg.qy (F:=X.tv.ownBlock.toList) E (fun b e=>by simp[e])) (fun H=>(h.apart.tv _ (by simpa using H)).1 rfl)
theorem gw3 {E w4:World} {X:Dw} {S:Sd} {o:Obj} (h:DK E X S) (t:Tn) {v:Value} (C:((E.alloc o).drew).grownBy w4 X.tv.ownBlock) (H:w4.ownsRow 0 214 4 v (S.turns.length+1) (S.turns.flatMap bw1++bw1 t))
  (I:v.ownBlock=X.tv.ownBlock\/v.ownBlock=some ((E.alloc o).drew).heap.size):DK (w4.setCell ⟨X.d,4,none⟩ v) { X with tv:=v } { S with turns:=S.turns++[t] }/\Chg X.foot E (w4.setCell ⟨X.d,4,none⟩ v)/\∀g∈({ X with tv:=v }:Dw).foot,g∈X.foot\/E.heap.size<=g:=by
 have J:=gk1 h C;have ha:=h.apart;have a2:((E.alloc o).drew).heap.size=E.heap.size+1:=by simp
 have Q:∀g,v.ownBlock=some g->g≠X.d:=fun g e e2=>by
  subst e2
  rcases I with h1|h1
  ·exact(ha.tv X.d (by rw[<-h1,e])).1 rfl
  ·rw[e]at h1
   injection h1 with h1;have:=h.box.lt;omega
 have U:Chg X.tv.ownBlock.toList E w4:=((Chg.refl _ E).alloc o).drew.trans (Chg.qy (F:=X.tv.ownBlock.toList) C (fun b e=>by simp[e])) (fun g C=>.inl C);have O:Chg ([X.d] ++X.tv.ownBlock.toList) E (w4.setCell ⟨X.d,4,none⟩ v):=(U.mono (fun g C=>.inl (p_ _ C))).setCell v (.inl s_);have hv:∀g,v.ownBlock=some g->X.tv.ownBlock=some g\/E.heap.size<=g:=fun g e=>by
  rcases I with h1|h1
  ·exact .inl (by rw[<-h1,e])
  ·rw[e]at h1
   injection h1 with h1;exact .inr o_
 have Z:=DK.iv5 (w':=w4.setCell ⟨X.d,4,none⟩ v) (tv:=v) (ts:=S.turns++[t]) h (by
   have h1:=jy H (xw w4 ⟨X.d,4,none⟩ v) (fun g e C=>Q g e (by simpa using C));simpa using h1) O hv (by
   have h1:=J.store 4 v;exact h1)
 refine⟨Z,O.mono (fun g C=>.inl ?_),fun g C=>?_⟩
 ·rcases k_.1 C with h1|h1
  ·rw[a_.1 h1];exact aj.2 (.inl rfl)
  ·exact aj.2 (.inr (.inr (.inr (.inr (.inl (by simpa using h1))))))
 ·rcases aj.1 C with h1|h1|h1|h1|h1|h1
  ·exact .inl (aj.2 (.inl h1))
  ·exact .inl (aj.2 (.inr (.inl h1)))
  ·exact .inl (aj.2 (.inr (.inr (.inl h1))))
  ·exact .inl (aj.2 (.inr (.inr (.inr (.inl h1)))))
  ·rcases hv g h1 with h2|h2
   ·exact .inl (aj.2 (.inr (.inr (.inr (.inr (.inl h2))))))
   ·exact .inr h2
  ·exact .inl (aj.2 (.inr (.inr (.inr (.inr (.inr h1))))))
theorem vz3 {E w4:World} {X:Dw} {S:Sd} {o:Obj} (h:DK E X S) (t:Tn) {v:Value} (I:((E.alloc o).drew).grownBy w4 X.tv.ownBlock) (C:w4.ownsRow 0 214 4 v (S.turns.length+1) (S.turns.flatMap bw1++bw1 t))
  (H:v.ownBlock=X.tv.ownBlock\/v.ownBlock=some ((E.alloc o).drew).heap.size):Upd X E (w4.setCell ⟨X.d,4,none⟩ v) { S with turns:=S.turns++[t] }:=
 let ⟨h1,h2,h3⟩:=gw3 h t I C H
 ⟨{ X with tv:=v },rfl,h1,h2,h3⟩
theorem Upd.trans {X:Dw} {w H I:World} {S2:Sd} {X1:Dw} (e:X1.d=X.d) (c:Chg X.foot w H) (J:∀g∈X1.foot,g∈X.foot\/w.heap.size<=g) (h2:Upd X1 H I S2):Upd X w I S2:=by
 obtain⟨X',O,h,Q,C⟩:=h2;refine⟨X',O.trans e,h,c.trans Q (fun g E=>J g E),fun g E=>?_⟩
 rcases C g E with h3|h3
 ·exact J g h3
 ·exact .inr (j_ c.size h3)
theorem mw2 (X:Dw) (S:Sd) (s:ByteArray) (hs:s.size<=maxLen) (hw:S.Wf) (hl:S.load<=1099511627776) (w:World) (h:DK w X S):
  Calls prog 66 #[.pointer (some ⟨X.d,0,none⟩),.string s] w fun e w'=>e=.returned (.int .i64 ((S.remove s.data.toList).2:Int))/\Upd X w w' (S.remove s.data.toList).1:=by
 have I:=jk5 X S s hs hw w h;have a9:=hw.call [s.data.toList];have a5:=Sd.bv1 S [s.data.toList];obtain⟨e1,e2,e3,e4,e5,_,_⟩:=Sd.nz S [s.data.toList];have C:S.remove s.data.toList=if (S.call [s.data.toList]).2≠0 then S.call [s.data.toList] else if (S.names.get s.data.toList).isNone then ((S.call [s.data.toList]).1,11)
  else ({ (S.call [s.data.toList]).1 with names:=Tn.go ⟨3,0,s.data.toList,[]⟩ S.names,turns:=S.turns++[⟨3,0,s.data.toList,[]⟩] },0):=rfl
 generalize S.call [s.data.toList]=R at *;obtain⟨S1,er⟩:=R;simp only at *
 by_cases h0:er=0
 ·subst h0
  rw[if_neg s_]at C;have a6:=fun O h1=>find_any X S1 s hs O h1 a9.names
  cases h3:S.names.get s.data.toList with
  |none=>
   simp only[h3,Option.isNone_none,if_true]at C;rw[C];simp only[e1,h3]at a6;clear C h3 e1 e2 e3 e4 e5 a9 hw h a5;go_enter func66,ntmps66;go_wp2_with fail;refine I.mono ?_;rintro e O ⟨rfl,h1,a0⟩;go_wp2_with fail;refine(a6 O h1).mono ?_;rintro e w2 ⟨rfl,rfl⟩;go_wp2;go_ret;exact⟨rfl,Upd.called h1 a0⟩
  |some i=>
   simp only[h3,bS_,af_,if_false]at C;rw[C,<-e1,<-e4];simp only[e1,h3]at a6;have f9:S1.turns.length+1<=1099511627777:=by unfold Sd.load at a5 hl;omega
   clear C h3 e1 e2 e3 e4 e5 hw h a5;go_enter func66,ntmps66;go_wp2_with fail;refine I.mono ?_;rintro e O ⟨rfl,h1,a0⟩;go_wp2_with fail;refine(a6 O h1).mono ?_;rintro e w2 ⟨rfl,rfl⟩;unfold ptrV;go_wp2;have b3:Below O.heap.size O (O.alloc (.cells #[.int .i64 3,.int .i64 0,.string s,.string ⟨#[]⟩] 214)):=b_ _ _;have H:=BoxO.new O #[.int .i64 3,.int .i64 0,.string s,.string ⟨#[]⟩] 214;have f':O.heap.size < (O.alloc (.cells #[.int .i64 3,.int .i64 0,.string s,.string ⟨#[]⟩] 214)).heap.size:=by simp
   have h2:=h1.below b3;have b5:=Chg.of_below b3 X.foot;generalize O.alloc (.cells #[.int .i64 3,.int .i64 0,.string s,.string ⟨#[]⟩] 214)=V at *;have c0:=H.cell 0;have c1:=H.cell 1;have c2:=H.cell 2;have c3:=H.cell 3;have d2:=h2.box.cell 2;simp only[Dw.cells,gE0,gE1]at c0 c1 c2 c3 d2;have d3:=h1.lt;have Q:=H_ h2.names;have d5:S1.names.length < maxLen:=by have:=a9.most;unfold maxLen;omega
   generalize O.heap.size=tb at *
   go_still_tail 5,(by kernel_rfl)
   change wpList _ _ _ _ _ (World.drew V);go_wp2_with fail;have a':=pj5 3 0 s.data.toList [] (by simpa using hs) s_ o_ X.nb S1.names.length S1.names V.drew Q.out.drew d5 o_;simp only[fz4,dq1]at a';refine a'.mono ?_;rintro e w3 ⟨rfl,b6,d6⟩;have a1:Chg [X.nb] V w3:=(Chg.refl [X.nb] V).drew.trans d6 (fun g Z=>.inl Z);have h3:=h2.pw1 b6 a1;have E:=H.chg a1 (by simp;have:=d3 X.nb (aj.2 (.inr (.inl rfl)));omega);have c0:=E.cell 0;have c1:=E.cell 1;have c2:=E.cell 2;have c3:=E.cell 3;have d4:=h3.box.cell 4;have f4:=h3.box.free 4;have g0:=h3.box.lt;obtain⟨tA,tc,U,_,_,_⟩:=gz h3.turns;simp only[Dw.cells,gE0,gE1]at c0 c1 c2 c3 d4;rw[U]at d4;clear d2 Q a' b6;have a2:=own_base h3.turns z_;rw[U]at a2;have a7:=fun(o:Obj) (w4:World) (Z:((w3.alloc o).drew).grownBy w4 (Value.slice tA S1.turns.length tc).ownBlock)=>(⟨(gk1 h3 (by rw[U];exact Z)).cell 4,(gk1 h3 (by rw[U];exact Z)).free 4⟩:w4.cell? ⟨X.d,4,none⟩=_/\w4.frozen? ⟨X.d,4,none⟩=false);have J:=fun(o:Obj) (w4:World) (v:Value) (Z:((w3.alloc o).drew).grownBy w4 (Value.slice tA S1.turns.length tc).ownBlock) b7 d9=>vz3 (o:=o) (w4:=w4) (v:=v) h3 ⟨3,0,s.data.toList,[]⟩ (by rw[U];exact Z) b7 (by rw[U];exact d9);simp only[bw1,dq1]at J;have d':=H_ J;have e0:=H_ a7;have b8:=fun(w5:World) (S5:Sd) (h:Upd X w3 w5 S5)=>Upd.after a0 (Upd.trans rfl (b5.trans (a1.mono (fun g Z=>.inl (by rw[a_.1 Z];exact aj.2 (.inr (.inl rfl))):∀g∈[X.nb],g∈X.foot\/_)) (fun g Z=>.inl Z)) (fun g Z=>.inl Z) h);have e6:=H_ b8;clear J a7 b8;obtain⟨i0,e7,e9,e',f5⟩:=info_parts ew2;go_wp2
   go_region_law (refine iv2 rfl (.tmp 30) (.tmp 32) _ rfl 0 214 i0 _ 4 48 underlying112 e7 e9 e' f5 rfl o_ z_ (.slice tA S1.turns.length tc) S1.turns.length _ rfl (a2.alloc _).drew _ (some ⟨w3.heap.size,0,none⟩) 1 1 o_ [.int .i64 3,.int .i64 0,.string s,.string ⟨#[]⟩] rfl (Row.new w3 #[.int .i64 3,.int .i64 0,.string s,.string ⟨#[]⟩] 214 (n:=1) (size:=4) rfl).drew (by simp[Value.oneCell']) (S1.turns.length+1) _ rfl rfl (by unfold maxLen;omega) o_ ?_;intro A4 c4 w4 a4 b0 _ _ a8;obtain⟨q4,q5⟩:=e0.out _ _ b0;have HO:=H_ (e6.out _ _ (d'.out _ _ _ b0 a4 a8));clear b0 a4 a8;simp only[Dw.cells,gE0,gE1]at q4)
   all_goals
    go_wp2;go_ret;exact⟨rfl,HO.out⟩
 ·have g7:=neq0 h0
  rw[if_pos h0]at C;rw[C];clear C e1 e2 e3 e4 e5 h0 a5;go_enter func66,ntmps66;go_wp2_with fail;refine I.mono ?_;rintro e O ⟨rfl,h1,a0⟩;go_wp2;go_ret;exact⟨rfl,Upd.called h1 a0⟩
theorem cx4:(prog.info? 211).map (fun i=>(i.zero,i.size,i.bytes))=some (some (.pointer none),1,8):=by kernel_rfl
theorem gj2 (S:Sd) (s:List UInt8):S.create s=if (S.call [s]).2≠0 then S.call [s] else if (S.names.get s).isSome then ((S.call [s]).1,12) else if 64<=S.names.length then ((S.call [s]).1,65)
  else ({ (S.call [s]).1 with names:=S.names.put s S.files.length,turns:=S.turns++[⟨1,S.files.length,s,[]⟩],files:=S.files++[([],0)] },0):=rfl
def gv1 (w:World):World:=(w.alloc (.cells #[.slice none 0 0,.int .i64 0] 232)).alloc (.cells #[.pointer (some ⟨w.heap.size,0,none⟩)] 211)
theorem bk3 (w:World):(gv1 w).heap.size=w.heap.size+2:=by simp[gv1]
theorem kw1 (w:World):Below w.heap.size w (gv1 w):=(b_ _ _).alloc s_ _
theorem kq1 {w w4:World} {X:Dw} {S:Sd} (h:DK w X S) (C:(gv1 w).grownBy w4 X.fv.ownBlock):BoxO w4 114 X.d (X.cells S):=
 (h.box.below (kw1 w)).chg (Chg.qy (F:=X.fv.ownBlock.toList) C (fun b e=>by simp[e])) (fun E=>(h.apart.fv _ (by simpa using E)).1 rfl)
theorem lj5 {w w4:World} {X:Dw} {S:Sd} (h:DK w X S) {v:Value} (C:(gv1 w).grownBy w4 X.fv.ownBlock) (H:w4.ownsRow 0 211 1 v (S.files.length+1) (X.ps.map ptrV++[.pointer (some ⟨w.heap.size,0,none⟩)]))
  (I:v.ownBlock=X.fv.ownBlock\/v.ownBlock=some (gv1 w).heap.size):Upd X w (w4.setCell ⟨X.d,1,none⟩ v) { S with files:=S.files++[([],0)] }:=by
 have J:=kq1 h C;have ha:=h.apart;have a9:=bk3 w;have O:=h.lt;have Q:∀g,v.ownBlock=some g->g≠X.d/\g≠w.heap.size:=fun g e=>by
  rcases I with h1|h1
  ·have h2:=(ha.fv g (by rw[<-h1,e])).1
   have h3:=O g (aj.2 (.inr (.inr (.inr (.inl (by rw[<-h1,e]))))));exact⟨h2,o_⟩
  ·rw[e]at h1
   injection h1 with h1;have:=h.box.lt;exact⟨o_,o_⟩
 have a2:Chg X.fv.ownBlock.toList w w4:=(Chg.of_below (kw1 w) _).trans (Chg.qy (F:=X.fv.ownBlock.toList) C (fun b e=>by simp[e])) (fun g C=>.inl C);have U:Chg ([X.d] ++X.fv.ownBlock.toList) w (w4.setCell ⟨X.d,1,none⟩ v):=(a2.mono (fun g C=>.inl (p_ _ C))).setCell v (.inl s_);have hv:∀g,v.ownBlock=some g->X.fv.ownBlock=some g\/w.heap.size<=g:=fun g e=>by
  rcases I with h1|h1
  ·exact .inl (by rw[<-h1,e])
  ·rw[e]at h1
   injection h1 with h1;exact .inr o_
 have Z:BoxO (w.alloc (.cells #[.slice none 0 0,.int .i64 0] 232)) 232 w.heap.size [.slice none 0 0,.int .i64 0]:=BoxO.new _ _ _;have a0:BoxO (gv1 w) 232 w.heap.size [.slice none 0 0,.int .i64 0]:=Z.alloc _;have a4:BoxO w4 232 w.heap.size [.slice none 0 0,.int .i64 0]:=a0.chg (Chg.qy (F:=X.fv.ownBlock.toList) C (fun b e=>by simp[e])) (fun hm=>by
  have:=O w.heap.size (aj.2 (.inr (.inr (.inr (.inl (by simpa using hm))))));omega)
 have a6:=DK.yz5 (w':=w4.setCell ⟨X.d,1,none⟩ v) (fv:=v) (b:=w.heap.size) h (by
   have h1:=jy H (xw w4 ⟨X.d,1,none⟩ v) (fun g e C=>(Q g e).1 (by simpa using C));simpa [ptrV] using h1) l_ (fun e=>(Q _ e).2 rfl) (a4.chg (xw w4 ⟨X.d,1,none⟩ v) (fun hm=>by
    have:=h.box.lt;simp at hm;omega)) U hv (by
   have h1:=J.store 1 v;exact h1)
 refine⟨{ X with fv:=v,ps:=X.ps++[(w.heap.size,Value.slice none 0 0)] },rfl,a6,U.mono (fun g C=>.inl ?_),fun g C=>?_⟩
 ·rcases k_.1 C with h1|h1
  ·rw[a_.1 h1];exact aj.2 (.inl rfl)
  ·exact aj.2 (.inr (.inr (.inr (.inl (by simpa using h1)))))
 ·rcases aj.1 C with h1|h1|h1|h1|h1|⟨p,hp,E⟩
  ·exact .inl (aj.2 (.inl h1))
  ·exact .inl (aj.2 (.inr (.inl h1)))
  ·exact .inl (aj.2 (.inr (.inr (.inl h1))))
  ·rcases hv g h1 with h2|h2
   ·exact .inl (aj.2 (.inr (.inr (.inr (.inl h2)))))
   ·exact .inr h2
  ·exact .inl (aj.2 (.inr (.inr (.inr (.inr (.inl h1))))))
  ·rcases k_.1 hp with hp|hp
   ·exact .inl (aj.2 (.inr (.inr (.inr (.inr (.inr ⟨p,hp,E⟩))))))
   ·rw[a_.1 hp]at E
    simp[iw,Value.ownBlock]at E;exact .inr o_
theorem py2 (X:Dw) (S:Sd) (s:ByteArray) (hs:s.size<=maxLen) (hw:S.Wf) (hl:S.load<=1099511627776) (w:World) (h:DK w X S):
  Calls prog 141 #[.pointer (some ⟨X.d,0,none⟩),.string s] w fun e w'=>e=.returned (.int .i64 ((S.create s.data.toList).2:Int))/\Upd X w w' (S.create s.data.toList).1:=by
 have H:=jk5 X S s hs hw w h;have c':=hw.call [s.data.toList];have a2:=Sd.bv1 S [s.data.toList];obtain⟨e1,e2,e3,e4,e5,_,_⟩:=Sd.nz S [s.data.toList];have C:=gj2 S s.data.toList;generalize S.call [s.data.toList]=R at *;obtain⟨S1,er⟩:=R;simp only at *
 by_cases h0:er=0
 ·subst h0
  rw[if_neg s_]at C;have a4:=fun w1 h1=>find_any X S1 s hs w1 h1 c'.names
  cases h3:S.names.get s.data.toList with
  |some i=>
   simp only[h3,Option.isSome_some,if_true]at C;rw[C];simp only[e1,h3]at a4;clear C h3 e1 e2 e3 e4 e5 c' hw h a2;go_enter func141,ntmps141;go_wp2_with fail;refine H.mono ?_;rintro e w1 ⟨rfl,h1,J⟩;go_wp2_with fail;refine(a4 w1 h1).mono ?_;rintro e w2 ⟨rfl,rfl⟩;unfold ptrV;go_wp2;go_ret;exact⟨rfl,Upd.called h1 J⟩
  |none=>
   simp only[h3,cf_,af_,if_false]at C;simp only[e1,h3]at a4
   by_cases hm:64<=S.names.length
   ·rw[if_pos hm]at C
    rw[C];have f8:(64:Int)<=(S1.names.length:Int):=by rw[e1];omega
    clear C h3 e1 e2 e3 e4 e5 hw h a2 hm;go_enter func141,ntmps141;go_wp2_with fail;refine H.mono ?_;rintro e w1 ⟨rfl,h1,J⟩;go_wp2_with fail;refine(a4 w1 h1).mono ?_;rintro e w2 ⟨rfl,rfl⟩;have d2:=h1.box.cell 2;have hn:=H_ h1.names;have b2:=Nm.bx2 S1.names;simp only[Dw.cells,gE0,gE1]at d2;go_wp2_with (at_len;refine wpList_len_own _ rfl _ 110 rfl 9 3 underlying110 _ X.nb _ _ rfl hn.out ?_;rw[b2]);go_wp2;go_ret;exact⟨rfl,Upd.called h1 J⟩
   ·rw[if_neg hm]at C
    have f8:(S1.names.length:Int) < 64:=by rw[e1];omega
    have f9:S1.names.length < maxLen:=by unfold maxLen;omega
    rw[C,<-e1,<-e4,<-e3];have d6:S1.turns.length+1<=1099511627777/\S1.files.length+1<=1099511627777:=by unfold Sd.load at a2 hl;omega
    obtain⟨d6,i8⟩:=d6;clear C h3 e1 e2 e3 e4 e5 hw h a2 hm;have d7:=ik5 hs;have HP:=H_ (Nm.lx3 S1.names s.data.toList S1.files.length);have f':(Lit.int .i64 (S1.files.length:Int)).wf=true:=WalkArith.wf_i64 o_;go_enter func141,ntmps141;go_wp2_with fail;refine H.mono ?_;rintro e w1 ⟨rfl,h1,J⟩;go_wp2_with fail;refine(a4 w1 h1).mono ?_;rintro e w2 ⟨rfl,rfl⟩;have d2:=h1.box.cell 2;have d1:=h1.box.cell 1;have hn:=H_ h1.names;have b2:=Nm.bx2 S1.names;obtain⟨fA,fc,I,_,_,_⟩:=gz h1.files;simp only[Dw.cells,gE0,gE1]at d2 d1;rw[I]at d1;go_wp2_with (at_len;refine wpList_len_own _ rfl _ 110 rfl 9 3 underlying110 _ X.nb _ _ rfl hn.out ?_;rw[b2]);go_wp2
    go_still_tail 10,(by kernel_rfl)
    change wpList _ _ _ _ _ (World.drew w1);go_wp2_with (at_mapUpdate;refine wpList_mapUpdate_own _ rfl _ _ _ 110 rfl 9 3 bz2 underlying110 _ X.nb _ _ rfl hn.out.drew f9 _ _ _ rfl rfl d7 _ [] (plainElem_int underlying3 f') ?_;intro w3 U a1);rw[HP.out]at U;have b3:Chg [X.nb] w1 w3:=(Chg.refl [X.nb] w1).drew.trans (Chg.qy (F:=[X.nb]) a1 (fun b hb=>by cases hb;simp)) (fun g O=>.inl O);have h3:=h1.pw1 U b3;clear U a1 HP hn d2 d1 b2;have d4:=h3.box.cell 4;have d1:=h3.box.cell 1;have g1:=h3.box.lt;obtain⟨tA,tc,Z,_,_,_⟩:=gz h3.turns;simp only[Dw.cells,gE0,gE1]at d4 d1;rw[Z]at d4;rw[I]at d1;have a0:=own_base h3.turns z_;rw[Z]at a0;have Q:=fun(o:Obj) (w4:World) (O:((w3.alloc o).drew).grownBy w4 (Value.slice tA S1.turns.length tc).ownBlock)=>(⟨(gk1 h3 (by rw[Z];exact O)).cell 4,(gk1 h3 (by rw[Z];exact O)).free 4⟩:w4.cell? ⟨X.d,4,none⟩=_/\w4.frozen? ⟨X.d,4,none⟩=false);have E:=fun(o:Obj) (w4:World) (v:Value) (O:((w3.alloc o).drew).grownBy w4 (Value.slice tA S1.turns.length tc).ownBlock) a6 b7=>gw3 (o:=o) (w4:=w4) (v:=v) h3 ⟨1,S1.files.length,s.data.toList,[]⟩ (by rw[Z];exact O) a6 (by rw[Z];exact b7);simp only[bw1,dq1]at E;have a7:=H_ E;have a8:=H_ Q;obtain⟨i0,g5,g6,g7,g8⟩:=info_parts ew2;clear E Q h1 Z;go_wp2
    go_region_law (refine iv2 rfl (.tmp 39) (.tmp 47) _ rfl 0 214 i0 _ 4 48 underlying112 g5 g6 g7 g8 rfl o_ z_ (.slice tA S1.turns.length tc) S1.turns.length _ rfl (a0.alloc _).drew _ (some ⟨w3.heap.size,0,none⟩) 1 1 o_ [.int .i64 1,.int .i64 (S1.files.length:Int),.string s,.string ⟨#[]⟩] rfl (Row.new w3 #[.int .i64 1,.int .i64 (S1.files.length:Int),.string s,.string ⟨#[]⟩] 214 (n:=1) (size:=4) rfl).drew (by simp[Value.oneCell']) (S1.turns.length+1) _ rfl rfl (by unfold maxLen;omega) o_ ?_;intro A4 c4 w4 a9 b8 _ _ b5;obtain⟨q4,q5⟩:=a8.out _ _ b8;have HO:=H_ (a7.out _ _ _ b8 a9 b5);clear b8 a9 b5;simp only[Dw.cells,gE0,gE1]at q4)
    all_goals
     obtain⟨h5,d9,d'⟩:=HO.out;clear HO a7 a8 a0 d4 d1 q4 q5 h3 g1;generalize w4.setCell ⟨X.d,4,none⟩ (.slice A4 (S1.turns.length+1) c4)=w5 at *;have d1:=h5.box.cell 1;simp only[Dw.cells,gE0,gE1]at d1;rw[I]at d1;have hrow:=h5.files;have Q:=fun(w6:World) (O:(gv1 w5).grownBy w6 (Value.slice fA S1.files.length fc).ownBlock)=>(⟨(kq1 h5 (by simp only[I];exact O)).cell 1,(kq1 h5 (by simp only[I];exact O)).free 1⟩:w6.cell? ⟨X.d,1,none⟩=_/\w6.frozen? ⟨X.d,1,none⟩=false);have E:=fun(w6:World) (v:Value) (O:(gv1 w5).grownBy w6 (Value.slice fA S1.files.length fc).ownBlock) a6 b7=>lj5 (w4:=w6) (v:=v) h5 (by simp only[I];exact O) a6 (by simp only[I];exact b7);simp only[I]at hrow;have a7:=H_ E;have a8:=H_ Q;have e0:=H_ hrow;clear E Q hrow I;obtain⟨j0,g',h6,h7,h8⟩:=info_parts cx4;have e6:∀w7 S7,Upd { X with tv:=.slice A4 (S1.turns.length+1) c4 } w5 w7 S7->Upd X w w7 S7:=fun w7 S7 hu=>
      Upd.after J (Upd.trans (X1:={ X with tv:=.slice A4 (S1.turns.length+1) c4 }) rfl ((b3.mono (fun g O=>.inl (by rw[a_.1 O];exact aj.2 (.inr (.inl rfl))))).trans d9 (fun g O=>.inl O)) (fun g O=>by
       rcases d' g O with h1|h1
       ·exact .inl h1
       ·exact .inr (j_ b3.size h1)) hu)
     have HT:=H_ e6;clear e6 J b3 d9 d';go_wp2_with (at_builtin;refine iy ?_);refine bz (cy1 rfl (.tmp 55) (.tmp 58) _ rfl 0 211 j0 _ 1 8 underlying111 g' h6 h7 h8 rfl o_ (gv1 w5) b0_ z_ (.slice fA S1.files.length fc) S1.files.length _ rfl (own_below e0.out (kw1 w5)) (w5.heap.size+2) (some ⟨w5.heap.size+1,0,none⟩) 1 1 o_ [.pointer (some ⟨w5.heap.size,0,none⟩)] (by simp[Act.eval]) ?rw (by simp[Value.oneCell']) (S1.files.length+1) _ rfl rfl (by unfold maxLen;omega) o_ ?_)
     case rw=>
      have h9:=Row.new (w5.alloc (.cells #[.slice none 0 0,.int .i64 0] 232)) #[.pointer (some ⟨w5.heap.size,0,none⟩)] 211 (n:=1) (size:=1) rfl;simpa using h9
     intro A6 c6 w6 a' _ b' _ _ b6;obtain⟨q4,q5⟩:=a8.out _ b';have HO:=H_ (HT.out _ _ (a7.out _ _ b' a' b6));simp only[Dw.cells,gE0,gE1]at q4;clear b' a' b6 HT a7 a8 e0;go_wp2;go_ret;exact⟨rfl,HO.out⟩
 ·have j4:=neq0 h0
  rw[if_pos h0]at C;rw[C];clear C e1 e2 e3 e4 e5 h0 a2;go_enter func141,ntmps141;go_wp2_with fail;refine H.mono ?_;rintro e w1 ⟨rfl,h1,J⟩;go_wp2;go_ret;exact⟨rfl,Upd.called h1 J⟩
theorem call2 (X:Dw) (S:Sd) (s u:ByteArray) (hs:s.size<=maxLen) (H:u.size<=maxLen) (C:S.Wf) (w:World) (h:DK w X S):
  Calls prog 144 #[.pointer (some ⟨X.d,0,none⟩),.slice (some ⟨w.heap.size,0,none⟩) 2 2] (w.alloc (.cells #[.string s,.string u] 9)) fun e w'=>e=.returned (.int .i64 ((S.call [s.data.toList,u.data.toList]).2:Int))/\DK w' X (S.call [s.data.toList,u.data.toList]).1/\Chg [X.d] w w':=by
 have E:Below w.heap.size w (w.alloc (.cells #[.string s,.string u] 9)):=b_ _ _;refine(yv2 X S (some ⟨w.heap.size,0,none⟩) 2 2 [s,u] o_ (by simp;exact⟨hs,H⟩) C.stop C.fail _ (h.below E) ?_).mono ?_
 ·exact(Row.new w #[.string s,.string u] 9 (n:=2) (size:=1) rfl).up s_
 ·rintro e w' ⟨rfl,h1,h2⟩
  exact⟨rfl,h1,(Chg.of_below E [X.d]).trans h2 (fun g I=>.inl I)⟩
theorem cw4 (X:Dw) (S:Sd) (s u:ByteArray) (hs:s.size<=maxLen) (hu:u.size<=maxLen) (hw:S.Wf) (hl:S.load<=1099511627776) (w:World) (h:DK w X S):
  Calls prog 199 #[.pointer (some ⟨X.d,0,none⟩),.string s,.string u] w fun e w'=>e=.returned (.int .i64 ((S.rename s.data.toList u.data.toList).2:Int))/\Upd X w w' (S.rename s.data.toList u.data.toList).1:=by
 have E:=call2 X S s u hs hu hw w h;have a8:=hw.call [s.data.toList,u.data.toList];have a2:=Sd.bv1 S [s.data.toList,u.data.toList];obtain⟨e1,e2,e3,e4,e5,_,_⟩:=Sd.nz S [s.data.toList,u.data.toList];have C:S.rename s.data.toList u.data.toList=if (S.call [s.data.toList,u.data.toList]).2≠0 then S.call [s.data.toList,u.data.toList] else if (S.names.get s.data.toList).isNone then ((S.call [s.data.toList,u.data.toList]).1,11)
  else if s.data.toList=u.data.toList then ((S.call [s.data.toList,u.data.toList]).1,0)
  else ({ (S.call [s.data.toList,u.data.toList]).1 with names:=Tn.go ⟨2,0,s.data.toList,u.data.toList⟩ S.names,turns:=S.turns++[⟨2,0,s.data.toList,u.data.toList⟩] },0):=rfl
 generalize S.call [s.data.toList,u.data.toList]=R at *;obtain⟨S1,er⟩:=R;simp only at *
 by_cases h0:er=0
 ·subst h0
  rw[if_neg s_]at C;have Z:=fun J h1=>find_any X S1 s hs J h1 a8.names
  cases h3:S.names.get s.data.toList with
  |none=>
   simp only[h3,Option.isNone_none,if_true]at C;rw[C];simp only[e1,h3]at Z;clear C h3 e1 e2 e3 e4 e5 a8 hw h a2;go_enter func199,ntmps199;go_wp2_with fail;refine E.mono ?_;rintro e J ⟨rfl,h1,O⟩;go_wp2_with fail;refine(Z J h1).mono ?_;rintro e w2 ⟨rfl,rfl⟩;go_wp2;go_ret;exact⟨rfl,Upd.called h1 O⟩
  |some i=>
   simp only[h3,bS_,af_,if_false]at C
   by_cases b1:s=u
   ·subst b1
    rw[if_pos rfl]at C;rw[C];simp only[e1,h3]at Z;clear C h3 e1 e2 e3 e4 e5 a8 hw h a2;go_enter func199,ntmps199;go_wp2_with fail;refine E.mono ?_;rintro e J ⟨rfl,h1,O⟩;go_wp2_with fail;refine(Z J h1).mono ?_;rintro e w2 ⟨rfl,rfl⟩;unfold ptrV;go_wp2;go_ret;exact⟨rfl,Upd.called h1 O⟩
   have a4:¬s.data.toList=u.data.toList:=fun e=>b1 (by rw[<-dq1 s,e,dq1]);rw[if_neg a4]at C;have f':(s.toList==u.toList)=false:=by
    rw[ByteArray.toList_eq,ByteArray.toList_eq];simpa using a4
   clear b1 a4;rw[C,<-e1,<-e4];simp only[e1,h3]at Z;have g2:S1.turns.length+1<=1099511627777:=by unfold Sd.load at a2 hl;omega
   clear C h3 e1 e2 e3 e4 e5 hw h a2;go_enter func199,ntmps199;go_wp2_with fail;refine E.mono ?_;rintro e J ⟨rfl,h1,O⟩;go_wp2_with fail;refine(Z J h1).mono ?_;rintro e w2 ⟨rfl,rfl⟩;unfold ptrV;go_wp2;have b8:Below J.heap.size J (J.alloc (.cells #[.int .i64 2,.int .i64 0,.string s,.string u] 214)):=b_ _ _;have I:=BoxO.new J #[.int .i64 2,.int .i64 0,.string s,.string u] 214;have g4:J.heap.size < (J.alloc (.cells #[.int .i64 2,.int .i64 0,.string s,.string u] 214)).heap.size:=by simp
   have h2:=h1.below b8;have b9:=Chg.of_below b8 X.foot;generalize J.alloc (.cells #[.int .i64 2,.int .i64 0,.string s,.string u] 214)=V at *;have c0:=I.cell 0;have c1:=I.cell 1;have c2:=I.cell 2;have c3:=I.cell 3;have d2:=h2.box.cell 2;simp only[Dw.cells,gE0,gE1]at c0 c1 c2 c3 d2;have d6:=h1.lt;have U:=H_ h2.names;have d7:S1.names.length < maxLen:=by have:=a8.most;unfold maxLen;omega
   generalize J.heap.size=tb at *
   go_still_tail 5,(by kernel_rfl)
   change wpList _ _ _ _ _ (World.drew V);go_wp2_with fail;have b2:=pj5 2 0 s.data.toList u.data.toList (by simpa using hs) (by simpa using hu) o_ X.nb S1.names.length S1.names V.drew U.out.drew d7 o_;simp only[fz4,dq1]at b2;refine b2.mono ?_;rintro e w3 ⟨rfl,b',d8⟩;have a5:Chg [X.nb] V w3:=(Chg.refl [X.nb] V).drew.trans d8 (fun g hg=>.inl hg);have h3:=h2.pw1 b' a5;have H:=I.chg a5 (by simp;have:=d6 X.nb (aj.2 (.inr (.inl rfl)));omega);have c0:=H.cell 0;have c1:=H.cell 1;have c2:=H.cell 2;have c3:=H.cell 3;have d4:=h3.box.cell 4;have f4:=h3.box.free 4;have g5:=h3.box.lt;obtain⟨tA,tc,a0,_,_,_⟩:=gz h3.turns;simp only[Dw.cells,gE0,gE1]at c0 c1 c2 c3 d4;rw[a0]at d4;clear d2 U b2 b';have a6:=own_base h3.turns z_;rw[a0]at a6;have a':=fun(o:Obj) (w4:World) (hg:((w3.alloc o).drew).grownBy w4 (Value.slice tA S1.turns.length tc).ownBlock)=>(⟨(gk1 h3 (by rw[a0];exact hg)).cell 4,(gk1 h3 (by rw[a0];exact hg)).free 4⟩:w4.cell? ⟨X.d,4,none⟩=_/\w4.frozen? ⟨X.d,4,none⟩=false);have Q:=fun(o:Obj) (w4:World) (v:Value) (hg:((w3.alloc o).drew).grownBy w4 (Value.slice tA S1.turns.length tc).ownBlock) c9 e0=>vz3 (o:=o) (w4:=w4) (v:=v) h3 ⟨2,0,s.data.toList,u.data.toList⟩ (by rw[a0];exact hg) c9 (by rw[a0];exact e0);simp only[bw1,dq1]at Q;have e6:=H_ Q;have e7:=H_ a';have c':=fun(w5:World) (S5:Sd) (h:Upd X w3 w5 S5)=>Upd.after O (Upd.trans rfl (b9.trans (a5.mono (fun g hg=>.inl (by rw[a_.1 hg];exact aj.2 (.inr (.inl rfl))):∀g∈[X.nb],g∈X.foot\/_)) (fun g hg=>.inl hg)) (fun g hg=>.inl hg) h);have e9:=H_ c';clear Q a' c';obtain⟨i0,e',f5,f6,f7⟩:=info_parts ew2;go_wp2
   go_region_law (refine iv2 rfl (.tmp 39) (.tmp 41) _ rfl 0 214 i0 _ 4 48 underlying112 e' f5 f6 f7 rfl o_ z_ (.slice tA S1.turns.length tc) S1.turns.length _ rfl (a6.alloc _).drew _ (some ⟨w3.heap.size,0,none⟩) 1 1 o_ [.int .i64 2,.int .i64 0,.string s,.string u] rfl (Row.new w3 #[.int .i64 2,.int .i64 0,.string s,.string u] 214 (n:=1) (size:=4) rfl).drew (by simp[Value.oneCell']) (S1.turns.length+1) _ rfl rfl (by unfold maxLen;omega) o_ ?_;intro A4 c4 w4 a7 b3 _ _ b0;obtain⟨q4,q5⟩:=e7.out _ _ b3;have HO:=H_ (e9.out _ _ (e6.out _ _ _ b3 a7 b0));clear b3 a7 b0;simp only[Dw.cells,gE0,gE1]at q4)
   all_goals
    go_wp2;go_ret;exact⟨rfl,HO.out⟩
 ·have h6:=neq0 h0
  rw[if_pos h0]at C;rw[C];clear C e1 e2 e3 e4 e5 h0 a2;go_enter func199,ntmps199;go_wp2_with fail;refine E.mono ?_;rintro e J ⟨rfl,h1,O⟩;go_wp2;go_ret;exact⟨rfl,Upd.called h1 O⟩
end
end Go.Proofs.YtkdbagdiplpcfaaGreatDoor
