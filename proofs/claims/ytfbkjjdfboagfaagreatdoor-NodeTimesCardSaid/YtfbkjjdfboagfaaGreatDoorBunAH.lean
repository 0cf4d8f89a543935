/- Some of the texts. No conditions. -/
import Derived.Test.YtfbkjjdfboagfaaGreatDoorBunAE
import Derived.Test.YtfbkjjdfboagfaaGreatDoorBunAF
import Derived.Test.YtfbkjjdfboagfaaGreatDoorBunAB
import Derived.Test.YtfbkjjdfboagfaaGreatDoorBunAD
import Derived.StillTailTactics
import Derived.Lib.SmallJoins
import Derived.Lib.AppendIntMem
import Derived.Lib.ItoaLen
import Derived.Stop.LaidErr
import Derived.LaidHandle

set_option linter.unusedSimpArgs false
set_option linter.unusedVariables false
set_option maxRecDepth 100000
set_option maxHeartbeats 16000000
namespace Go.Proofs.YtfbkjjdfboagfaaGreatDoor
open Go.Proofs.Tryz Go Go.RowKit Go.Lib Go.Shelf
section
open Go.Maps
theorem jk5 (X:Dw) (S:Sd) (s:ByteArray) (C:s.size<=maxLen) (o:S.Wf) (w:World) (h:DK w X S):
  Calls prog 146 #[X.d,.slice (some (w:Nat)) 1 1] (w.alloc (.cells #[.string s] 9)) fun e w'=>e=.returned (.int .i64 ((S.call [s.data.toList]).2:Int))/\DK w' X (S.call [s.data.toList]).1/\Chg [X.d] w w':=by
 have z:Below w w (w.alloc (.cells #[.string s] 9)):=b_ _ _;refine(zq2 X S (some ⟨w,0,none⟩) 1 1 [s] o_ (by simpa using C) o.stop o.fail _ (h.below z) ?_).mono ?_
 ·exact(Row.new w #[.string s] 9 (n:=1) (size:=1) rfl).up s_
 ·rintro e w' ⟨rfl,h1,h2⟩
  exact⟨rfl,h1,(Chg.of_below z [X.d]).trans h2 (fun g E=>.inl E)⟩
theorem cw2 (X:Dw) (S:Sd) (s:ByteArray) (hs:s.size<=maxLen) (hw:S.Wf) (w:World) (h:DK w X S):
  Calls prog 79 #[X.d,.string s] w fun e w'=>∃A c,e=.returned (.tuple #[.slice A (S.read s.data.toList).1.length c,.int .i64 ((S.read s.data.toList).2:Int)])/\
   w'.ownsRow w 5 1 (.slice A (S.read s.data.toList).1.length c) (S.read s.data.toList).1.length (bts (S.read s.data.toList).1)/\Below w w w':=by
 have nil:=fun W:World=>G_ W w 5 1;have o:=fq2 s hs w;have C:=uw2 X.d S.dead w (by rw[h.box.cell 6];rfl);have z:=find_any X S s hs w h hw.names
 cases h1:Sd.named s.data.toList with
 |false=>
  have E:S.read s.data.toList=([],10):=by simp[Sd.read,h1]
  rw[E];rw[h1]at o;clear h1 E;go_enter func79,ntmps79;go_wp2_with fail;refine o.mono ?_;rintro e w1 ⟨rfl,rfl⟩;go_wp2;go_ret2;exact⟨_,_,rfl,nil w,Below.refl _ _⟩
 |true=>
  rw[h1]at o
  cases h2:S.dead with
  |true=>
   have E:S.read s.data.toList=([],50):=by simp[Sd.read,h1,h2]
   rw[E];rw[h2]at C;clear h1 h2 E;go_enter func79,ntmps79;go_wp2_with fail;refine o.mono ?_;rintro e w1 ⟨rfl,rfl⟩;go_wp2_with fail;refine C.mono ?_;rintro e w1 ⟨rfl,rfl⟩;go_wp2;go_ret2;exact⟨_,_,rfl,nil w,Below.refl _ _⟩
  |false=>
   rw[h2]at C
   cases h3:S.names.get s.data.toList with
   |none=>
    have E:S.read s.data.toList=([],11):=by simp[Sd.read,h1,h2,h3]
    rw[E];rw[h3]at z;clear h1 h2 h3 E;go_enter func79,ntmps79;go_wp2_with fail;refine o.mono ?_;rintro e w1 ⟨rfl,rfl⟩;go_wp2_with fail;refine C.mono ?_;rintro e w1 ⟨rfl,rfl⟩;go_wp2_with fail;refine z.mono ?_;rintro e w1 ⟨rfl,rfl⟩;go_wp2;go_ret2;exact⟨_,_,rfl,nil w,Below.refl _ _⟩
   |some i=>
    have hi:i < S.files.length:=hw.names _ (Nm.get_mem h3);have Q:i < X.ps.length:=by rw[h.flen];exact hi
    have E:S.read s.data.toList=(S.files[i].1,0):=by simp[Sd.read,h1,h2,h3,hi]
    rw[E];rw[h3]at z;have H:X.ps.getD i (0,Go.undef)=X.ps[i]:=by simp[t_,Q]
    simp only[H,ptrV]at z;obtain⟨a1,J⟩:=h.file i hi Q;have a9:=(hw.file i hi).2;generalize S.files[i]=f at *;generalize X.ps[i]=p at *;have e0:=a1.c0;obtain⟨fA,fc,I,_,_,_⟩:=ay J;rw[I]at e0 J;have U:=Row.own J;obtain⟨i0,a2,a4,a5,a6⟩:=info_parts gv1;clear h1 h2 h3 E H I;go_enter func79,ntmps79;go_wp2_with fail;refine o.mono ?_;rintro e w1 ⟨rfl,rfl⟩;go_wp2_with fail;refine C.mono ?_;rintro e w1 ⟨rfl,rfl⟩;go_wp2_with fail;refine z.mono ?_;rintro e w1 ⟨rfl,rfl⟩;go_wp2_with fail;refine z.mono ?_;rintro e w1 ⟨rfl,rfl⟩;go_wp2_with (at_builtin;refine iq ?_);refine gz (yx rfl (.const (.slice none 0 0)) (.tmp 23) _ rfl (w:Nat) 5 i0 _ 1 1 underlying77 a2 a4 a5 a6 rfl o_ w b0_ l_ rfl (w:Nat) fA f.1.length fc (bts f.1) rfl U (by1 _) (by unfold maxLen;omega) o_ ?_);intro A2 c2 w2 O a7 _ _ _;go_wp2;go_ret2;exact⟨_,_,rfl,O,a7⟩
theorem Upd.after {X:Dw} {w w1 z:World} {S2:Sd} (h1:Chg [X.d] w w1) (h2:Upd X w1 z S2):Upd X w z S2:=by
 obtain⟨X',e,h,c,C⟩:=h2;refine⟨X',e,h,(h1.mono (fun g o=>.inl ?_)).trans c (fun g o=>.inl o),fun g o=>?_⟩
 ·rw[c_.1 o]
  exact aj.2 (.inl rfl)
 ·rcases C g o with h3|h3
  ·exact .inl h3
  ·exact .inr (g_ h1.size h3)
theorem Upd.called {X:Dw} {w w1:World} {S1:Sd} (h:DK w1 X S1) (h1:Chg [X.d] w w1):Upd X w w1 S1:=Upd.after h1 (Upd.same h (Chg.refl _ _))
theorem neq0 {n:Nat} (h:n≠0):(((n:Int) !=0))=true:=by simp[h]
theorem nk1 {X:Dw} {i:Nat} (hi:i < X.ps.length) {g:Nat} (o:g∈gq X.ps[i]):g∈X.foot:=aj.2 (.inr (.inr (.inr (.inr (.inr ⟨_,w_ hi,o⟩)))))
theorem ux2 {X:Dw} {i:Nat} (hi:i < X.ps.length) {v:Value} {n:Nat} (z:∀g,v.ownBlock=some g->(X.ps[i]).2.ownBlock=some g\/n<=g):∀g∈({ X with ps:=X.ps.set i ((X.ps[i]).1,v) }:Dw).foot,g∈X.foot\/n<=g:=by
 intro g C
 rcases aj.1 C with h|h|h|h|h|⟨p,E,o⟩
 ·exact .inl (aj.2 (.inl h))
 ·exact .inl (aj.2 (.inr (.inl h)))
 ·exact .inl (aj.2 (.inr (.inr (.inl h))))
 ·exact .inl (aj.2 (.inr (.inr (.inr (.inl h)))))
 ·exact .inl (aj.2 (.inr (.inr (.inr (.inr (.inl h))))))
 ·rcases bM_ E with h1|h1
  ·exact .inl (aj.2 (.inr (.inr (.inr (.inr (.inr ⟨p,h1,o⟩))))))
  ·subst h1
   simp only[gq,h_,bg_]at o
   rcases o with h2|h2
   ·exact .inl (nk1 hi (by simp[gq,h2]))
   ·rcases z g h2 with h3|h3
    ·exact .inl (nk1 hi (by simp[gq,h3]))
    ·exact .inr h3
theorem sync_any (X:Dw) (S:Sd) (s:ByteArray) (hs:s.size<=maxLen) (hw:S.Wf) (w:World) (h:DK w X S):
  Calls prog 148 #[X.d,.string s] w fun e w'=>e=.returned (.int .i64 ((S.sync s.data.toList).2:Int))/\Upd X w w' (S.sync s.data.toList).1:=by
 have z:=jk5 X S s hs hw w h;have a2:=hw.call [s.data.toList];obtain⟨e1,e2,e3,e4,e5,_,_⟩:=Sd.ny S [s.data.toList];have o:S.sync s.data.toList=if (S.call [s.data.toList]).2≠0 then S.call [s.data.toList] else match S.names.get s.data.toList with
  |none=>((S.call [s.data.toList]).1,11)
  |some i=>({ (S.call [s.data.toList]).1 with files:=S.files.set i ((S.files.getD i ([],0)).1,S.size i) },0):=rfl
 generalize S.call [s.data.toList]=R at *;obtain⟨S1,er⟩:=R;simp only at *
 by_cases h0:er=0
 ·subst h0
  rw[if_neg s_]at o;have J:=fun w1 h1=>find_any X S1 s hs w1 h1 a2.names
  cases h3:S.names.get s.data.toList with
  |none=>
   simp only[h3]at o;rw[o];simp only[e1,h3]at J;clear o h3 e1 e2 e3 e4 e5 a2 hw h;go_enter func148,ntmps148;go_wp2_with fail;refine z.mono ?_;rintro e w1 ⟨rfl,h1,E⟩;go_wp2_with fail;refine(J w1 h1).mono ?_;rintro e w2 ⟨rfl,rfl⟩;go_wp2;go_ret;exact⟨rfl,Upd.called h1 E⟩
  |some i=>
   simp only[h3]at o;rw[o];simp only[e1,h3]at J;have hi:i < S1.files.length:=by rw[e3];exact hw.names _ (Nm.get_mem h3)
   have a5:S.size i=(S1.files[i]).1.length:=by simp[Sd.size,<-e3,t_,hi]
   have a6:(S.files.getD i ([],0)).1=(S1.files[i]).1:=by simp[<-e3,t_,hi]
   have b3:=(a2.file i hi).2;obtain⟨f,hf⟩:=n_ (S1.files[i]);rw[<-hf]at a5 a6 b3;have HE:Hid (({ S1 with files:=S.files.set i ((S.files.getD i ([],0)).1,S.size i) }:Sd)={ S1 with files:=S1.files.set i (f.1,f.1.length) }):=by
    rw[a5,a6,<-e3];exact rfl
   rw[HE.out];have HF:=H_ hf;clear hf o h3 e1 e2 e4 e5 e3 a5 a6 hw HE h;go_enter func148,ntmps148;go_wp2_with fail;refine z.mono ?_;rintro e w1 ⟨rfl,h1,E⟩;go_wp2_with fail;have C:i < X.ps.length:=by rw[h1.flen];exact hi
   have O:X.ps.getD i (0,Go.undef)=X.ps[i]:=by simp[t_,C]
   refine(J w1 h1).mono ?_;rintro e w2 ⟨rfl,rfl⟩;rw[O];have a7:rw1 w1 X.ps[i] f:=by rw[show f=_ from HF.out];exact h1.file i hi C
   have H:=h1.apart.self _ (w_ C);have hv:=fun g (e:(X.ps[i]).2.ownBlock=some g)=>(.inl e:(X.ps[i]).2.ownBlock=some g\/w1.heap.size<=g);have key:=fun(w2:World) (hf:rw1 w2 ((X.ps[i]).1,(X.ps[i]).2) (f.1,f.1.length)) (c:Chg (gq X.ps[i]) w1 w2)=>DK.qw h1 C hf c hv;have b6:=ux2 C hv;have Q:=fun g hg=>nk1 (X:=X) (i:=i) C (g:=g) hg;generalize X.ps[i]=p at *;obtain⟨I,a9⟩:=a7;have U:=I.store 1 (.int .i64 f.1.length);have a':=tq w1 ⟨p.1,1,none⟩ (.int .i64 f.1.length);have a0:=jv a9 a' (fun g e hg=>H (by rw[e];simpa using hg));have b0:Chg (gq p) w1 (w1.setCell (p.1,1) (.int .i64 f.1.length)):=a'.mono (fun g hg=>.inl (by simpa [gq] using Or.inl hg));have b7:=key _ ⟨U,a0⟩ b0;have e0:=I.c0;have e1:=I.c1;have f1:=I.free 1;obtain⟨fA,fc,a1,_,_,_⟩:=ay a9;have b8:Upd X w (w1.setCell (p.1,1) (.int .i64 f.1.length)) { S1 with files:=S1.files.set i (f.1,f.1.length) }:=Upd.after E ⟨{ X with ps:=X.ps.set i (p.1,p.2) },rfl,b7,b0.mono (fun g hg=>.inl (Q g hg)),b6⟩;have HU:=H_ b8;rw[a1]at e0;clear b8 b7 b0 U a' a0 key b6 hv H O a1 a9 I Q;unfold ptrV;go_wp2;go_ret;exact⟨rfl,HU⟩
 ·have d8:=neq0 h0
  rw[if_pos h0]at o;rw[o];clear o e1 e2 e3 e4 e5 h0;go_enter func148,ntmps148;go_wp2_with fail;refine z.mono ?_;rintro e w1 ⟨rfl,h1,E⟩;go_wp2;go_ret;exact⟨rfl,Upd.called h1 E⟩
theorem DK.dz6 {w w':World} {X:Dw} {S S':Sd} (h:DK w X S) {b1 b2:Nat} (c:Chg [X.d] w w') (O:uy w' b1 S'.names.length S'.names) (Q:uy w' b2 S'.lasted.length S'.lasted)
  (h1:b1=X.nb\/b1=X.lb\/(w:Nat)<=b1) (h2:(w:Nat)<=b2) (U:b1≠b2) (hb:BoxO w' 54 X.d (({ X with nb:=b1,lb:=b2,tv:=.slice none 0 0 }:Dw).cells S')) (e3:S'.files=S.files) (e4:S'.turns=[]):
  DK w' { X with nb:=b1,lb:=b2,tv:=.slice none 0 0 } S':=by
 have a:=h.apart;have hl:=h.lt;obtain⟨q,fs,nm,la,tu,ca,de,st,fa⟩:=S';simp only at e3 e4;subst e3 e4;refine⟨hb,O,Q,jv h.files c (fun g e=>by simpa using (a.fv g e).1),fun i hi h3=>(h.file i hi h3).chg c (fun g e=>by simpa using (a.ps _ (w_ h3) g e).1),?_,?_⟩
 ·simpa using G_ _ _ _ _
 ·have H:=h.nodup
  unfold Dw.foot at H ⊢;have I:(X.fv.ownBlock.toList++X.ps.flatMap gq).Nodup:=by
   refine List.Nodup.sublist ?_ H;refine cn_ ?_ (bq_ _ _);refine cn_ ?_ (bq_ _ _);refine cn_ ?_ (bq_ _ _);exact List.Sublist.append (List.Sublist.refl _) (bq_ _ _)
  have o:∀g∈X.fv.ownBlock.toList++X.ps.flatMap gq,g≠X.d/\g≠X.nb/\g≠X.lb/\g < (w:Nat):=fun g hg=>by
   rcases q_.1 hg with h3|h3
   ·have h4:X.fv.ownBlock=some g:=by simpa using h3
    exact⟨(a.fv g h4).1,(a.fv g h4).2.1,(a.fv g h4).2.2.1,hl g (aj.2 (.inr (.inr (.inr (.inl h4)))))⟩
   ·obtain⟨p,J,C⟩:=W_.1 h3
    exact⟨(a.ps p J g C).1,(a.ps p J g C).2.1,(a.ps p J g C).2.2.1,hl g (aj.2 (.inr (.inr (.inr (.inr (.inr ⟨p,J,C⟩))))))⟩
  have hd:=h.box.lt;have E:b1≠X.d:=by
   rcases h1 with h1|h1|h1
   ·rw[h1];exact a.d_nb.symm
   ·rw[h1];exact a.d_lb.symm
   ·omega
  have a0:(Value.slice none 0 0).ownBlock.toList=[]:=rfl;simp only[a0,D_,List.singleton_append];refine bk_.2 ⟨fun z=>?_,bk_.2 ⟨fun z=>?_,bk_.2 ⟨fun z=>?_,I⟩⟩⟩
  ·rcases h_.1 z with h3|z
   ·exact E h3.symm
   ·rcases h_.1 z with h3|z
    ·omega
    ·exact(o _ z).1 rfl
  ·rcases h_.1 z with h3|z
   ·exact U h3
   ·obtain⟨m1,m2,m3,m4⟩:=o _ z
    rcases h1 with h1|h1|h1
    ·exact m2 h1
    ·exact m3 h1
    ·omega
  ·have:=(o _ z).2.2.2
   omega
theorem mz2 (X:Dw) (S:Sd) (hw:S.Wf) (w:World) (h:DK w X S):
  Calls prog 176 #[X.d] w fun e w'=>e=.returned (.int .i64 ((S.ak).2:Int))/\Upd X w w' (S.ak).1:=by
 have o:=zq2 X S none 0 0 [] o_ s_ hw.stop hw.fail w h Row.nil_;have I:texts []=[]:=rfl;rw[I]at o;obtain⟨e1,e2,e3,e4,e5,_,_⟩:=Sd.ny S [];have z:S.ak=if (S.call []).2≠0 then S.call [] else ({ (S.call []).1 with lasted:=S.names,turns:=[] },0):=rfl
 generalize S.call []=R at *;obtain⟨S1,er⟩:=R;simp only at *
 by_cases h0:er=0
 ·subst h0
  rw[if_neg s_]at z;rw[z,<-e1];clear z e1 e2 e3 e4 e5 h I;go_enter func176,ntmps176;go_wp2_with fail;refine o.mono ?_;rintro e w1 ⟨rfl,h1,E⟩;have d2:=h1.box.cell 2;simp only[Dw.cells,gE0,gE1]at d2;have Q:=AnyW.maps_Clone_owns clone32 9 (plainElem (H:=Unit) prog 3) X.nb _ _ w1 h1.names;go_wp2_with fail;refine Q.mono ?_;rintro e w2 ⟨rfl,U,a0,J⟩;have h2:=h1.below J;have d3:=h2.box.cell 3;have d4:=h2.box.cell 4;have f3:=h2.box.free 3;have f4:=h2.box.free 4;simp only[Dw.cells,gE0,gE1]at d3 d4;have a1:=(h2.box.store 3 (.map (some (w1:Nat)))).store 4 (.slice none 0 0);have O:Chg [X.d] w1 ((w2.setCell (X.d,3) (.map (some (w1:Nat)))).setCell (X.d,4) (.slice none 0 0)):=((Chg.of_below J [X.d]).setCell _ (.inl s_)).setCell _ (.inl s_);have C:Chg [X.d] w2 ((w2.setCell (X.d,3) (.map (some (w1:Nat)))).setCell (X.d,4) (.slice none 0 0)):=((Chg.refl [X.d] w2).setCell _ (.inl s_)).setCell _ (.inl s_);have b7:=h1.box.lt;have b6:=h1.names.lt;have a2:=DK.dz6 (b1:=X.nb) (b2:=(w1:Nat)) (S':={ S1 with lasted:=S1.names,turns:=[] }) h1 O (xy a0 C (by simpa using h1.apart.d_nb.symm)) (xy U C (by simp;omega)) (.inl rfl) l_ o_ a1 rfl rfl;have a4:Upd X w _ _:=Upd.after E ⟨{ X with nb:=X.nb,lb:=(w1:Nat),tv:=.slice none 0 0 },rfl,a2,O.mono (fun g hg=>.inl (by rw[c_.1 hg];exact aj.2 (.inl rfl))),fun g hg=>by
   rcases aj.1 hg with h5|h5|h5|h5|h5|h5
   ·exact .inl (aj.2 (.inl h5))
   ·exact .inl (aj.2 (.inr (.inl h5)))
   ·exact .inr (a4_ (show g=(w1:Nat) from h5).symm)
   ·exact .inl (aj.2 (.inr (.inr (.inr (.inl h5)))))
   ·cases h5
   ·exact .inl (aj.2 (.inr (.inr (.inr (.inr (.inr h5))))))⟩
  have HU:=H_ a4;clear a4 a2 O C a1 U a0 J h2 h1 Q E;go_wp2;go_ret;exact⟨rfl,HU⟩
 ·have b9:=neq0 h0
  rw[if_pos h0]at z;rw[z];clear z e1 e2 e3 e4 e5 h0 I;go_enter func176,ntmps176;go_wp2_with fail;refine o.mono ?_;rintro e w1 ⟨rfl,h1,E⟩;go_wp2;go_ret;exact⟨rfl,Upd.called h1 E⟩
theorem yk1 {w:World} {b:Nat} (o:w.heap[b]?=some (.map #[] 0)):uy w b 0 []:=by
 have h:=(World.ownsMap_made (H:=Unit) w prog 9 (plainElem (H:=Unit) prog 3));obtain⟨es,clock,h1,F,z,C⟩:=h;rw[heap_alloc_new]at h1;injection h1 with h1;injection h1 with h1 h2;subst h1 h2;exact⟨#[],0,o,F,z,C⟩
theorem wz3 (q:Int) (w:World):Calls prog 4 #[q] w fun e w'=>∃X:Dw,e=.returned (.pointer (some X.d))/\DK w' X (Sd.new q)/\Below w w w'/\∀g∈X.foot,(w:Nat)<=g:=by
 have U:=@run_makeMap prog;go_enter func4,ntmps4;go_wp2;generalize z:(Obj.cells #[.int .i64 (max q 0),.slice none 0 0,.map (some (w:Nat)),.map (some ((w:Nat)+1)),.slice none 0 0,.int .i64 0,.bool false,.int .i64 0,.int .i64 0] 54)=o;have C:((q.toNat:Nat):Int)=max q 0:=o_
 have E:((w.alloc (.map #[] 0)).alloc (.map #[] 0)).heap.size=(w:Nat)+2:=by simp
 have H:uy (((w.alloc (.map #[] 0)).alloc (.map #[] 0)).alloc o) w 0 []:=yk1 (by
  rw[Below.heap_alloc _ _ _ (by simp;omega),Below.heap_alloc _ _ _ s_];exact(MapKept.heap_alloc w _).1)
 have I:uy (((w.alloc (.map #[] 0)).alloc (.map #[] 0)).alloc o) ((w:Nat)+1) 0 []:=yk1 (by
  rw[Below.heap_alloc _ _ _ s_];have:=(MapKept.heap_alloc (w.alloc (.map #[] 0)) (.map #[] 0)).1;simpa using this)
 have J:BoxO (((w.alloc (.map #[] 0)).alloc (.map #[] 0)).alloc o) 54 ((w:Nat)+2) (({ d:=(w:Nat)+2,nb:=(w:Nat),lb:=(w:Nat)+1,fv:=.slice none 0 0,tv:=.slice none 0 0,ps:=[] }:Dw).cells (Sd.new q)):=by
  have h1:=BoxO.new ((w.alloc (.map #[] 0)).alloc (.map #[] 0)) #[.int .i64 (max q 0),.slice none 0 0,.map (some (w:Nat)),.map (some ((w:Nat)+1)),.slice none 0 0,.int .i64 0,.bool false,.int .i64 0,.int .i64 0] 54;rw[z,E]at h1;unfold Dw.cells Sd.new;simp only[C];exact h1
 have hB:Below w w (((w.alloc (.map #[] 0)).alloc (.map #[] 0)).alloc o):=((b_ _ _).alloc s_ _).alloc (by simp;omega) _;have O:∀g∈({ d:=(w:Nat)+2,nb:=(w:Nat),lb:=(w:Nat)+1,fv:=.slice none 0 0,tv:=.slice none 0 0,ps:=[] }:Dw).foot,(w:Nat)<=g:=fun g hg=>by
  rcases aj.1 hg with h|h|h|h|h|⟨p,hp,_⟩
  ·simp only at h;omega
  ·simp only at h;omega
  ·simp only at h;omega
  ·simp[Value.ownBlock]at h
  ·simp[Value.ownBlock]at h
  ·cases hp
 have Q:DK (((w.alloc (.map #[] 0)).alloc (.map #[] 0)).alloc o) { d:=(w:Nat)+2,nb:=(w:Nat),lb:=(w:Nat)+1,fv:=.slice none 0 0,tv:=.slice none 0 0,ps:=[] } (Sd.new q):=
  ⟨J,H,I,G_ _ _ _ _,fun i hi=>(by simp[Sd.new]at hi),G_ _ _ _ _,by simp[Dw.foot,Value.ownBlock]⟩
 go_ret;exact⟨_,rfl,Q,hB,O⟩
theorem jv2:(prog.info? 81).map (fun i=>(i.zero,i.size,i.bytes))=some (some (.agg #[.int .i64 0,.int .i64 0,.string ⟨#[]⟩,.string ⟨#[]⟩]),4,48):=by kernel_rfl
theorem gj1 {z w4:World} {X:Dw} {S:Sd} {o:Obj} (h:DK z X S) (C:((z.alloc o).drew).grownBy w4 X.tv.ownBlock):BoxO w4 54 X.d (X.cells S):=
 ((h.box.alloc o).drew).chg (Chg.qy (F:=X.tv.ownBlock.toList) C (fun b e=>by simp[e])) (fun E=>(h.apart.tv _ (by simpa using E)).1 rfl)
theorem cw3 {C w4:World} {X:Dw} {S:Sd} {o:Obj} (h:DK C X S) (t:Tn) {v:Value} (z:((C.alloc o).drew).grownBy w4 X.tv.ownBlock) (E:w4.ownsRow 0 81 4 v (S.turns.length+1) (S.turns.flatMap lq++lq t))
  (H:v.ownBlock=X.tv.ownBlock\/v.ownBlock=some ((C.alloc o).drew).heap.size):DK (w4.setCell (X.d,4) v) { X with tv:=v } { S with turns:=S.turns++[t] }/\Chg X.foot C (w4.setCell (X.d,4) v)/\∀g∈({ X with tv:=v }:Dw).foot,g∈X.foot\/(C:Nat)<=g:=by
 have I:=gj1 h z;have ha:=h.apart;have a2:((C.alloc o).drew).heap.size=(C:Nat)+1:=by simp
 have O:∀g,v.ownBlock=some g->g≠X.d:=fun g e e2=>by
  subst e2
  rcases H with h1|h1
  ·exact(ha.tv X.d (by rw[<-h1,e])).1 rfl
  ·rw[e]at h1
   injection h1 with h1;have:=h.box.lt;omega
 have Q:Chg X.tv.ownBlock.toList C w4:=((Chg.refl _ C).alloc o).drew.trans (Chg.qy (F:=X.tv.ownBlock.toList) z (fun b e=>by simp[e])) (fun g z=>.inl z);have J:Chg ([X.d] ++X.tv.ownBlock.toList) C (w4.setCell (X.d,4) v):=(Q.mono (fun g z=>.inl (k_ _ z))).setCell v (.inl s_);have hv:∀g,v.ownBlock=some g->X.tv.ownBlock=some g\/(C:Nat)<=g:=fun g e=>by
  rcases H with h1|h1
  ·exact .inl (by rw[<-h1,e])
  ·rw[e]at h1
   injection h1 with h1;exact .inr o_
 have U:=DK.mj5 (w':=w4.setCell (X.d,4) v) (tv:=v) (ts:=S.turns++[t]) h (by
   have h1:=jv E (tq w4 ⟨X.d,4,none⟩ v) (fun g e z=>O g e (by simpa using z));simpa using h1) J hv (by
   have h1:=I.store 4 v;exact h1)
 refine⟨U,J.mono (fun g z=>.inl ?_),fun g z=>?_⟩
 ·rcases q_.1 z with h1|h1
  ·rw[c_.1 h1];exact aj.2 (.inl rfl)
  ·exact aj.2 (.inr (.inr (.inr (.inr (.inl (by simpa using h1))))))
 ·rcases aj.1 z with h1|h1|h1|h1|h1|h1
  ·exact .inl (aj.2 (.inl h1))
  ·exact .inl (aj.2 (.inr (.inl h1)))
  ·exact .inl (aj.2 (.inr (.inr (.inl h1))))
  ·exact .inl (aj.2 (.inr (.inr (.inr (.inl h1)))))
  ·rcases hv g h1 with h2|h2
   ·exact .inl (aj.2 (.inr (.inr (.inr (.inr (.inl h2))))))
   ·exact .inr h2
  ·exact .inl (aj.2 (.inr (.inr (.inr (.inr (.inr h1))))))
theorem yy3 {C w4:World} {X:Dw} {S:Sd} {o:Obj} (h:DK C X S) (t:Tn) {v:Value} (H:((C.alloc o).drew).grownBy w4 X.tv.ownBlock) (z:w4.ownsRow 0 81 4 v (S.turns.length+1) (S.turns.flatMap lq++lq t))
  (E:v.ownBlock=X.tv.ownBlock\/v.ownBlock=some ((C.alloc o).drew).heap.size):Upd X C (w4.setCell (X.d,4) v) { S with turns:=S.turns++[t] }:=
 let ⟨h1,h2,h3⟩:=cw3 h t H z E
 ⟨{ X with tv:=v },rfl,h1,h2,h3⟩
theorem Upd.trans {X:Dw} {w w1 C:World} {S2:Sd} {X1:Dw} (e:X1.d=X.d) (c:Chg X.foot w w1) (E:∀g∈X1.foot,g∈X.foot\/(w:Nat)<=g) (h2:Upd X1 w1 C S2):Upd X w C S2:=by
 obtain⟨X',H,h,c',o⟩:=h2;refine⟨X',H.trans e,h,c.trans c' (fun g z=>E g z),fun g z=>?_⟩
 rcases o g z with h3|h3
 ·exact E g h3
 ·exact .inr (g_ c.size h3)
theorem qq1 (X:Dw) (S:Sd) (s:ByteArray) (hs:s.size<=maxLen) (hw:S.Wf) (hl:S.load<=1099511627776) (w:World) (h:DK w X S):
  Calls prog 81 #[X.d,.string s] w fun e w'=>e=.returned (.int .i64 ((S.remove s.data.toList).2:Int))/\Upd X w w' (S.remove s.data.toList).1:=by
 have H:=jk5 X S s hs hw w h;have a8:=hw.call [s.data.toList];have a4:=Sd.dz1 S [s.data.toList];obtain⟨e1,e2,e3,e4,e5,_,_⟩:=Sd.ny S [s.data.toList];have z:S.remove s.data.toList=if (S.call [s.data.toList]).2≠0 then S.call [s.data.toList] else if (S.names.get s.data.toList).isNone then ((S.call [s.data.toList]).1,11)
  else ({ (S.call [s.data.toList]).1 with names:=Tn.go ⟨3,0,s.data.toList,[]⟩ S.names,turns:=S.turns++[⟨3,0,s.data.toList,[]⟩] },0):=rfl
 generalize S.call [s.data.toList]=R at *;obtain⟨S1,er⟩:=R;simp only at *
 by_cases h0:er=0
 ·subst h0
  rw[if_neg s_]at z;have a5:=fun w1 h1=>find_any X S1 s hs w1 h1 a8.names
  cases h3:S.names.get s.data.toList with
  |none=>
   simp only[h3,Option.isNone_none,if_true]at z;rw[z];simp only[e1,h3]at a5;clear z h3 e1 e2 e3 e4 e5 a8 hw h a4;go_enter func81,ntmps81;go_wp2_with fail;refine H.mono ?_;rintro e w1 ⟨rfl,h1,U⟩;go_wp2_with fail;refine(a5 w1 h1).mono ?_;rintro e w2 ⟨rfl,rfl⟩;go_wp2;go_ret;exact⟨rfl,Upd.called h1 U⟩
  |some i=>
   simp only[h3,bV_,ai_,if_false]at z;rw[z,<-e1,<-e4];simp only[e1,h3]at a5;have f5:S1.turns.length+1<=1099511627777:=by unfold Sd.load at a4 hl;omega
   clear z h3 e1 e2 e3 e4 e5 hw h a4;go_enter func81,ntmps81;go_wp2_with fail;refine H.mono ?_;rintro e w1 ⟨rfl,h1,U⟩;go_wp2_with fail;refine(a5 w1 h1).mono ?_;rintro e w2 ⟨rfl,rfl⟩;unfold ptrV;go_wp2;have b2:Below w1.heap.size w1 (w1.alloc (.cells #[.int .i64 3,.int .i64 0,.string s,.string ⟨#[]⟩] 81)):=b_ _ _;have E:=BoxO.new w1 #[.int .i64 3,.int .i64 0,.string s,.string ⟨#[]⟩] 81;have f6:w1.heap.size < (w1.alloc (.cells #[.int .i64 3,.int .i64 0,.string s,.string ⟨#[]⟩] 81)).heap.size:=by simp
   have h2:=h1.below b2;have b3:=Chg.of_below b2 X.foot;generalize w1.alloc (.cells #[.int .i64 3,.int .i64 0,.string s,.string ⟨#[]⟩] 81)=V at *;have c0:=E.cell 0;have c1:=E.cell 1;have c2:=E.cell 2;have c3:=E.cell 3;have d2:=h2.box.cell 2;simp only[Dw.cells,gE0,gE1]at c0 c1 c2 c3 d2;have d5:=h1.lt;have J:=H_ h2.names;have d6:S1.names.length < maxLen:=by have:=a8.most;unfold maxLen;omega
   generalize w1.heap.size=tb at *
   go_still_tail 5,(by kernel_rfl)
   change wpList _ _ _ _ _ (World.drew V);go_wp2_with fail;have a9:=ox4 3 0 s.data.toList [] (by simpa using hs) s_ o_ X.nb S1.names.length S1.names V.drew J.out.drew d6 o_;simp only[sq3,ek1]at a9;refine a9.mono ?_;rintro e w3 ⟨rfl,b5,d7⟩;have a0:Chg [X.nb] V w3:=(Chg.refl [X.nb] V).drew.trans d7 (fun g Q=>.inl Q);have h3:=h2.qj1 b5 a0;have C:=E.chg a0 (by simp;have:=d5 X.nb (aj.2 (.inr (.inl rfl)));omega);have c0:=C.cell 0;have c1:=C.cell 1;have c2:=C.cell 2;have c3:=C.cell 3;have d4:=h3.box.cell 4;have f4:=h3.box.free 4;have f7:=h3.box.lt;obtain⟨tA,tc,O,_,_,_⟩:=ay h3.turns;simp only[Dw.cells,gE0,gE1]at c0 c1 c2 c3 d4;rw[O]at d4;clear d2 J a9 b5;have a1:=own_base h3.turns z_;rw[O]at a1;have a6:=fun(o:Obj) (w4:World) (Q:((w3.alloc o).drew).grownBy w4 (Value.slice tA S1.turns.length tc).ownBlock)=>(⟨(gj1 h3 (by rw[O];exact Q)).cell 4,(gj1 h3 (by rw[O];exact Q)).free 4⟩:w4.cell? (X.d,4)=_/\w4.frozen? (X.d,4)=false);have I:=fun(o:Obj) (w4:World) (v:Value) (Q:((w3.alloc o).drew).grownBy w4 (Value.slice tA S1.turns.length tc).ownBlock) b6 d'=>yy3 (o:=o) (w4:=w4) (v:=v) h3 ⟨3,0,s.data.toList,[]⟩ (by rw[O];exact Q) b6 (by rw[O];exact d');simp only[lq,ek1]at I;have e0:=H_ I;have e6:=H_ a6;have b7:=fun(w5:World) (S5:Sd) (h:Upd X w3 w5 S5)=>Upd.after U (Upd.trans rfl (b3.trans (a0.mono (fun g Q=>.inl (by rw[c_.1 Q];exact aj.2 (.inr (.inl rfl))):∀g∈[X.nb],g∈X.foot\/_)) (fun g Q=>.inl Q)) (fun g Q=>.inl Q) h);have e7:=H_ b7;clear I a6 b7;obtain⟨i0,e9,e',f0,f1⟩:=info_parts jv2;go_wp2
   go_region_law (refine jw2 rfl (.tmp 30) (.tmp 32) _ rfl 0 81 i0 _ 4 48 underlying47 e9 e' f0 f1 rfl o_ z_ (.slice tA S1.turns.length tc) S1.turns.length _ rfl (a1.alloc _).drew _ (some ⟨w3,0,none⟩) 1 1 o_ [.int .i64 3,.int .i64 0,.string s,.string ⟨#[]⟩] rfl (Row.new w3 #[.int .i64 3,.int .i64 0,.string s,.string ⟨#[]⟩] 81 (n:=1) (size:=4) rfl).drew (by simp[Value.oneCell']) (S1.turns.length+1) _ rfl rfl (by unfold maxLen;omega) o_ ?_;intro A4 c4 w4 a2 a' _ _ a7;obtain⟨q4,q5⟩:=e6.out _ _ a';have HO:=H_ (e7.out _ _ (e0.out _ _ _ a' a2 a7));clear a' a2 a7;simp only[Dw.cells,gE0,gE1]at q4)
   all_goals
    go_wp2;go_ret;exact⟨rfl,HO⟩
 ·have h6:=neq0 h0
  rw[if_pos h0]at z;rw[z];clear z e1 e2 e3 e4 e5 h0 a4;go_enter func81,ntmps81;go_wp2_with fail;refine H.mono ?_;rintro e w1 ⟨rfl,h1,U⟩;go_wp2;go_ret;exact⟨rfl,Upd.called h1 U⟩
end
section
open Go.Maps Go.Sort
theorem ox5 (m:Nat):AnyZ.SortsIn prog sorted140_ren Fence.wide m:=
 ⟨fun blk off cap C W E o z=>callsIn_wide.2 (AnyM.slices_Sort_string sort193 blk off cap C W E o z),
  fun p cap W=>callsIn_wide.2 (AnyM.slices_Sort_string_none sort193 p cap W)⟩
theorem ty4 (o:Option Nat) (W:World):CallsIn Fence.wide 5 prog 141 #[.map o] W fun e w'=>e=.returned (.func (.func 194) #[] #[(W:Nat)])/\w'=W.alloc (.cells #[.map o] 45):=
 AnyZ.keys_in keys141 Fence.wide 5 trivial rfl o W
theorem mv3 {H:Type} (b nn:Nat) (C:DataW H) (R:Value->Option (DataW H×List MemPlace)) (w:World) (z:w.ownsMap prog 9 R b nn C) (I:Maps.size C<=maxLen) (o:Maps.size C *16<=140737488355328):
  CallsIn Fence.wide 5 prog 140 #[.func (.func 194) #[] #[(w:Nat)]] (w.alloc (.cells #[.map (some b)] 45)) fun e w'=>∃(v:Value) (E:List (List UInt8)),e=.returned v/\E.Perm (strKeys C)/\
   w'.ownsRow (w.alloc (.cells #[.map (some b)] 45)).heap.size 9 1 v E.length ((E.mergeSort (fun x y=>decide (x<=y))).map encStr)/\(v=.slice none 0 0↔E=[])/\Below (w.alloc (.cells #[.map (some b)] 45)).heap.size (w.alloc (.cells #[.map (some b)] 45)) w':=by
 have O:=z.lt;have J:SeqGives Fence.wide 2 prog 194 #[(w:Nat)] encStr (fun E=>E.Perm (strKeys C)) (Maps.size C) (w.alloc (.cells #[.map (some b)] 45)):=
  AnyZ.keys_gives (ρ:=keys141_ren) { keys141 with } Fence.wide _ trivial rfl o_ w b nn C _ s_ s_ (by
   obtain⟨es,clock,Q,U,hs,hD⟩:=z;exact⟨es,clock,(Below.heap_alloc _ _ b O).trans Q,U,hs,hD⟩)
 exact AnyZ.sorted_in sorted140 Fence.wide 5 trivial trivial trivial trivial rfl o_ (ox5 _) (enters_of func193 (by kernel_rfl) rfl) 194 #[(w:Nat)] trivial (enters_of func194 (by kernel_rfl) rfl) _ _ I o _ J
theorem tx3 (m:Nm):strKeys (Nm.enc m)=m.map (·.1):=by simp[Nm.enc,strKeys,Nm.lit1,strOf]
theorem fj3 (X:Dw) (S:Sd) (hw:S.Wf) (w:World) (h:DK w X S):Calls prog 77 #[X.d] w fun e w'=>
  ∃A c,e=.returned (.slice A S.list.length c)/\w'.ownsRow w 9 1 (.slice A S.list.length c) S.list.length (S.list.map encStr)/\Below w w w':=by
 have d6:=h.box.cell 6;have d2:=h.box.cell 2;simp only[Dw.cells,gE0,gE1]at d2 d6;have E:=uw2 X.d S.dead w d6
 cases hd:S.dead with
 |true=>
  have o:S.list=[]:=by simp[Sd.list,hd]
  rw[o];rw[hd]at E;clear hd o d6 d2;go_enter func77,ntmps77;go_wp2_with fail;refine E.mono ?_;rintro e w1 ⟨rfl,rfl⟩;go_wp2;go_ret;exact⟨_,_,rfl,G_ _ _ _ _,Below.refl _ _⟩
 |false=>
  have o:S.list=(S.names.map (·.1)).mergeSort fun x y=>decide (x<=y):=by simp[Sd.list,hd]
  have hn:=h.names;have H:=Nm.dq2 S.names;have hm:=hw.most;rw[hd]at E;have HL:=H_ o;obtain⟨L,I⟩:=n_ S.list;rw[<-I];have J:=H_ I;clear hd o d6 I;have z:=fun w0 (O:uy w0 X.nb S.names.length S.names)=>mv3 X.nb _ _ _ w0 O (by rw[H];unfold maxLen;omega) (by rw[H];omega);clear H;have HC:=H_ z;clear z;refine(callsIn_wide (n:=6)).1 ?_;have a7:Fence.wide.fn 141:=trivial;have a8:Fence.wide.fn 140:=trivial;have a9:Fence.wide.fn 33:=trivial;refine callsIn_of_wp func77 rfl trivial ?_ rfl;simp only[ntmps77,az_,r_,R_,Nat.reduceAdd,Nat.reduceSub,a0_,a1_,bf_,a7_,D_,U_]
  gi_wp2_with (first
   |(gi_at_call 33;refine(callsIn_wide.2 E).mono ?_;rintro e w' ⟨rfl,rfl⟩)
   |(gi_at_call 141;refine(ty4 _ _).mono ?_;rintro e w' ⟨rfl,rfl⟩)
   |(gi_at_call 140;refine(HC.out _ hn).mono ?_;rintro e w' ⟨v,Q,rfl,U,C,a0,hb⟩))
  have e1:L=Q.mergeSort (fun x y=>decide (x<=y)):=by
   rw[tx3]at U;rw[show L=_ from J.out,show S.list=_ from HL.out];exact(mergeSort_of_perm U).symm
  have e2:Q.length=L.length:=by rw[e1,List.length_mergeSort]
  rw[<-e1,e2]at C;obtain⟨A,c,rfl,_⟩:=ay C;go_ret;exact⟨_,_,rfl,own_base C s_,((Below.refl _ w).alloc l_ _).trans (hb.mono s_)⟩
end
section
open Go.Maps
theorem cx4:(prog.info? 76).map (fun i=>(i.zero,i.size,i.bytes))=some (some (.pointer none),1,8):=by kernel_rfl
theorem tv4 (S:Sd) (s:List UInt8):S.create s=if (S.call [s]).2≠0 then S.call [s] else if (S.names.get s).isSome then ((S.call [s]).1,12) else if 64<=S.names.length then ((S.call [s]).1,65)
  else ({ (S.call [s]).1 with names:=S.names.put s S.files.length,turns:=S.turns++[⟨1,S.files.length,s,[]⟩],files:=S.files++[([],0)] },0):=rfl
def jk1 (w:World):World:=(w.alloc (.cells #[.slice none 0 0,.int .i64 0] 79)).alloc (.cells #[(w:Nat)] 76)
theorem lj3 (w:World):(jk1 w).heap.size=(w:Nat)+2:=by simp[jk1]
theorem ky1 (w:World):Below w w (jk1 w):=(b_ _ _).alloc s_ _
theorem mw1 {w w4:World} {X:Dw} {S:Sd} (h:DK w X S) (o:(jk1 w).grownBy w4 X.fv.ownBlock):BoxO w4 54 X.d (X.cells S):=
 (h.box.below (ky1 w)).chg (Chg.qy (F:=X.fv.ownBlock.toList) o (fun b e=>by simp[e])) (fun z=>(h.apart.fv _ (by simpa using z)).1 rfl)
theorem lv5 {w w4:World} {X:Dw} {S:Sd} (h:DK w X S) {v:Value} (o:(jk1 w).grownBy w4 X.fv.ownBlock) (C:w4.ownsRow 0 76 1 v (S.files.length+1) (X.ps.map ptrV++[.pointer (some (w:Nat))]))
  (E:v.ownBlock=X.fv.ownBlock\/v.ownBlock=some (jk1 w).heap.size):Upd X w (w4.setCell (X.d,1) v) { S with files:=S.files++[([],0)] }:=by
 have H:=mw1 h o;have ha:=h.apart;have a8:=lj3 w;have I:=h.lt;have J:∀g,v.ownBlock=some g->g≠X.d/\g≠(w:Nat):=fun g e=>by
  rcases E with h1|h1
  ·have h2:=(ha.fv g (by rw[<-h1,e])).1
   have h3:=I g (aj.2 (.inr (.inr (.inr (.inl (by rw[<-h1,e]))))));exact⟨h2,o_⟩
  ·rw[e]at h1
   injection h1 with h1;have:=h.box.lt;exact⟨o_,o_⟩
 have a1:Chg X.fv.ownBlock.toList w w4:=(Chg.of_below (ky1 w) _).trans (Chg.qy (F:=X.fv.ownBlock.toList) o (fun b e=>by simp[e])) (fun g o=>.inl o);have O:Chg ([X.d] ++X.fv.ownBlock.toList) w (w4.setCell (X.d,1) v):=(a1.mono (fun g o=>.inl (k_ _ o))).setCell v (.inl s_);have hv:∀g,v.ownBlock=some g->X.fv.ownBlock=some g\/(w:Nat)<=g:=fun g e=>by
  rcases E with h1|h1
  ·exact .inl (by rw[<-h1,e])
  ·rw[e]at h1
   injection h1 with h1;exact .inr o_
 have Q:BoxO (w.alloc (.cells #[.slice none 0 0,.int .i64 0] 79)) 79 (w:Nat) [.slice none 0 0,.int .i64 0]:=BoxO.new _ _ _;have U:BoxO (jk1 w) 79 (w:Nat) [.slice none 0 0,.int .i64 0]:=Q.alloc _;have a2:BoxO w4 79 (w:Nat) [.slice none 0 0,.int .i64 0]:=U.chg (Chg.qy (F:=X.fv.ownBlock.toList) o (fun b e=>by simp[e])) (fun hm=>by
  have:=I w (aj.2 (.inr (.inr (.inr (.inl (by simpa using hm))))));omega)
 have a5:=DK.ww5 (w':=w4.setCell (X.d,1) v) (fv:=v) (b:=(w:Nat)) h (by
   have h1:=jv C (tq w4 ⟨X.d,1,none⟩ v) (fun g e o=>(J g e).1 (by simpa using o));simpa [ptrV] using h1) l_ (fun e=>(J _ e).2 rfl) (a2.chg (tq w4 ⟨X.d,1,none⟩ v) (fun hm=>by
    have:=h.box.lt;simp at hm;omega)) O hv (by
   have h1:=H.store 1 v;exact h1)
 refine⟨{ X with fv:=v,ps:=X.ps++[((w:Nat),Value.slice none 0 0)] },rfl,a5,O.mono (fun g o=>.inl ?_),fun g o=>?_⟩
 ·rcases q_.1 o with h1|h1
  ·rw[c_.1 h1];exact aj.2 (.inl rfl)
  ·exact aj.2 (.inr (.inr (.inr (.inl (by simpa using h1)))))
 ·rcases aj.1 o with h1|h1|h1|h1|h1|⟨p,hp,z⟩
  ·exact .inl (aj.2 (.inl h1))
  ·exact .inl (aj.2 (.inr (.inl h1)))
  ·exact .inl (aj.2 (.inr (.inr (.inl h1))))
  ·rcases hv g h1 with h2|h2
   ·exact .inl (aj.2 (.inr (.inr (.inr (.inl h2)))))
   ·exact .inr h2
  ·exact .inl (aj.2 (.inr (.inr (.inr (.inr (.inl h1))))))
  ·rcases q_.1 hp with hp|hp
   ·exact .inl (aj.2 (.inr (.inr (.inr (.inr (.inr ⟨p,hp,z⟩))))))
   ·rw[c_.1 hp]at z
    simp[gq,Value.ownBlock]at z;exact .inr o_
theorem qz2 (X:Dw) (S:Sd) (s:ByteArray) (hs:s.size<=maxLen) (hw:S.Wf) (hl:S.load<=1099511627776) (w:World) (h:DK w X S):
  Calls prog 147 #[X.d,.string s] w fun e w'=>e=.returned (.int .i64 ((S.create s.data.toList).2:Int))/\Upd X w w' (S.create s.data.toList).1:=by
 have E:=jk5 X S s hs hw w h;have d0:=hw.call [s.data.toList];have a2:=Sd.dz1 S [s.data.toList];obtain⟨e1,e2,e3,e4,e5,_,_⟩:=Sd.ny S [s.data.toList];have z:=tv4 S s.data.toList;generalize S.call [s.data.toList]=R at *;obtain⟨S1,er⟩:=R;simp only at *
 by_cases h0:er=0
 ·subst h0
  rw[if_neg s_]at z;have a4:=fun w1 h1=>find_any X S1 s hs w1 h1 d0.names
  cases h3:S.names.get s.data.toList with
  |some i=>
   simp only[h3,Option.isSome_some,if_true]at z;rw[z];simp only[e1,h3]at a4;clear z h3 e1 e2 e3 e4 e5 d0 hw h a2;go_enter func147,ntmps147;go_wp2_with fail;refine E.mono ?_;rintro e w1 ⟨rfl,h1,I⟩;go_wp2_with fail;refine(a4 w1 h1).mono ?_;rintro e w2 ⟨rfl,rfl⟩;unfold ptrV;go_wp2;go_ret;exact⟨rfl,Upd.called h1 I⟩
  |none=>
   simp only[h3,Option.isSome_none,ai_,if_false]at z;simp only[e1,h3]at a4
   by_cases hm:64<=S.names.length
   ·rw[if_pos hm]at z
    rw[z];have f5:(64:Int)<=(S1.names.length:Int):=by rw[e1];omega
    clear z h3 e1 e2 e3 e4 e5 hw h a2 hm;go_enter func147,ntmps147;go_wp2_with fail;refine E.mono ?_;rintro e w1 ⟨rfl,h1,I⟩;go_wp2_with fail;refine(a4 w1 h1).mono ?_;rintro e w2 ⟨rfl,rfl⟩;have d2:=h1.box.cell 2;have hn:=H_ h1.names;have b2:=Nm.dq2 S1.names;simp only[Dw.cells,gE0,gE1]at d2;go_wp2_with (at_len;refine wpList_len_own _ rfl _ 45 rfl 9 3 underlying45 _ X.nb _ _ rfl hn.out ?_;rw[b2]);go_wp2;go_ret;exact⟨rfl,Upd.called h1 I⟩
   ·rw[if_neg hm]at z
    have f5:(S1.names.length:Int) < 64:=by rw[e1];omega
    have f6:S1.names.length < maxLen:=by unfold maxLen;omega
    rw[z,<-e1,<-e4,<-e3];have d7:S1.turns.length+1<=1099511627777/\S1.files.length+1<=1099511627777:=by unfold Sd.load at a2 hl;omega
    obtain⟨d7,j4⟩:=d7;clear z h3 e1 e2 e3 e4 e5 hw h a2 hm;have d8:=cz4 hs;have HP:=H_ (Nm.vj2 S1.names s.data.toList S1.files.length);have f7:(Lit.int .i64 S1.files.length).wf=true:=WalkArith.wf_i64 o_;go_enter func147,ntmps147;go_wp2_with fail;refine E.mono ?_;rintro e w1 ⟨rfl,h1,I⟩;go_wp2_with fail;refine(a4 w1 h1).mono ?_;rintro e w2 ⟨rfl,rfl⟩;have d2:=h1.box.cell 2;have d1:=h1.box.cell 1;have hn:=H_ h1.names;have b2:=Nm.dq2 S1.names;obtain⟨fA,fc,H,_,_,_⟩:=ay h1.files;simp only[Dw.cells,gE0,gE1]at d2 d1;rw[H]at d1;go_wp2_with (at_len;refine wpList_len_own _ rfl _ 45 rfl 9 3 underlying45 _ X.nb _ _ rfl hn.out ?_;rw[b2]);go_wp2
    go_still_tail 10,(by kernel_rfl)
    change wpList _ _ _ _ _ (World.drew w1);go_wp2_with (at_mapUpdate;refine wpList_mapUpdate_own _ rfl _ _ _ 45 rfl 9 3 nz1 underlying45 _ X.nb _ _ rfl hn.out.drew f6 _ _ _ rfl rfl d8 _ [] (plainElem_int underlying3 f7) ?_;intro w3 Q a1);rw[HP.out]at Q;have b3:Chg [X.nb] w1 w3:=(Chg.refl [X.nb] w1).drew.trans (Chg.qy (F:=[X.nb]) a1 (fun b hb=>by cases hb;simp)) (fun g J=>.inl J);have h3:=h1.qj1 Q b3;clear Q a1 HP hn d2 d1 b2;have d4:=h3.box.cell 4;have d1:=h3.box.cell 1;have g4:=h3.box.lt;obtain⟨tA,tc,U,_,_,_⟩:=ay h3.turns;simp only[Dw.cells,gE0,gE1]at d4 d1;rw[U]at d4;rw[H]at d1;have a0:=own_base h3.turns z_;rw[U]at a0;have O:=fun(o:Obj) (w4:World) (J:((w3.alloc o).drew).grownBy w4 (Value.slice tA S1.turns.length tc).ownBlock)=>(⟨(gj1 h3 (by rw[U];exact J)).cell 4,(gj1 h3 (by rw[U];exact J)).free 4⟩:w4.cell? (X.d,4)=_/\w4.frozen? (X.d,4)=false);have C:=fun(o:Obj) (w4:World) (v:Value) (J:((w3.alloc o).drew).grownBy w4 (Value.slice tA S1.turns.length tc).ownBlock) a5 b7=>cw3 (o:=o) (w4:=w4) (v:=v) h3 ⟨1,S1.files.length,s.data.toList,[]⟩ (by rw[U];exact J) a5 (by rw[U];exact b7);simp only[lq,ek1]at C;have a6:=H_ C;have a7:=H_ O;obtain⟨i0,h6,h7,h8,h'⟩:=info_parts jv2;clear C O h1 U;go_wp2
    go_region_law (refine jw2 rfl (.tmp 39) (.tmp 47) _ rfl 0 81 i0 _ 4 48 underlying47 h6 h7 h8 h' rfl o_ z_ (.slice tA S1.turns.length tc) S1.turns.length _ rfl (a0.alloc _).drew _ (some ⟨w3,0,none⟩) 1 1 o_ [.int .i64 1,(S1.files.length:Int),.string s,.string ⟨#[]⟩] rfl (Row.new w3 #[.int .i64 1,(S1.files.length:Int),.string s,.string ⟨#[]⟩] 81 (n:=1) (size:=4) rfl).drew (by simp[Value.oneCell']) (S1.turns.length+1) _ rfl rfl (by unfold maxLen;omega) o_ ?_;intro A4 c4 w4 a8 b8 _ _ b5;obtain⟨q4,q5⟩:=a7.out _ _ b8;have HO:=H_ (a6.out _ _ _ b8 a8 b5);clear b8 a8 b5;simp only[Dw.cells,gE0,gE1]at q4)
    all_goals
     obtain⟨h5,d',e0⟩:=HO.out;clear HO a6 a7 a0 d4 d1 q4 q5 h3 g4;generalize w4.setCell (X.d,4) (.slice A4 (S1.turns.length+1) c4)=w5 at *;have d1:=h5.box.cell 1;simp only[Dw.cells,gE0,gE1]at d1;rw[H]at d1;have a9:=h5.files;have O:=fun(w6:World) (J:(jk1 w5).grownBy w6 (Value.slice fA S1.files.length fc).ownBlock)=>(⟨(mw1 h5 (by simp only[H];exact J)).cell 1,(mw1 h5 (by simp only[H];exact J)).free 1⟩:w6.cell? (X.d,1)=_/\w6.frozen? (X.d,1)=false);have C:=fun(w6:World) (v:Value) (J:(jk1 w5).grownBy w6 (Value.slice fA S1.files.length fc).ownBlock) a5 b7=>lv5 (w4:=w6) (v:=v) h5 (by simp only[H];exact J) a5 (by simp only[H];exact b7);simp only[H]at a9;have a6:=H_ C;have a7:=H_ O;have e6:=H_ a9;clear C O a9 H;obtain⟨j0,i2,i3,i4,i5⟩:=info_parts cx4;have e7:∀w7 S7,Upd { X with tv:=.slice A4 (S1.turns.length+1) c4 } w5 w7 S7->Upd X w w7 S7:=fun w7 S7 hu=>
      Upd.after I (Upd.trans (X1:={ X with tv:=.slice A4 (S1.turns.length+1) c4 }) rfl ((b3.mono (fun g J=>.inl (by rw[c_.1 J];exact aj.2 (.inr (.inl rfl))))).trans d' (fun g J=>.inl J)) (fun g J=>by
       rcases e0 g J with h1|h1
       ·exact .inl h1
       ·exact .inr (g_ b3.size h1)) hu)
     have HT:=H_ e7;clear e7 I b3 d' e0;go_wp2_with (at_builtin;refine iq ?_);refine gz (xw rfl (.tmp 55) (.tmp 58) _ rfl 0 76 j0 _ 1 8 underlying46 i2 i3 i4 i5 rfl o_ (jk1 w5) b0_ z_ (.slice fA S1.files.length fc) S1.files.length _ rfl (own_below e6.out (ky1 w5)) ((w5:Nat)+2) (some ⟨(w5:Nat)+1,0,none⟩) 1 1 o_ [(w5:Nat)] (by simp[Act.eval]) ?rw (by simp[Value.oneCell']) (S1.files.length+1) _ rfl rfl (by unfold maxLen;omega) o_ ?_)
     case rw=>
      have h9:=Row.new (w5.alloc (.cells #[.slice none 0 0,.int .i64 0] 79)) #[(w5:Nat)] 76 (n:=1) (size:=1) rfl;simpa using h9
     intro A6 c6 w6 a' _ b' _ _ b6;obtain⟨q4,q5⟩:=a7.out _ b';have HO:=H_ (HT.out _ _ (a6.out _ _ b' a' b6));simp only[Dw.cells,gE0,gE1]at q4;clear b' a' b6 HT a6 a7 e6;go_wp2;go_ret;exact⟨rfl,HO⟩
 ·have j':=neq0 h0
  rw[if_pos h0]at z;rw[z];clear z e1 e2 e3 e4 e5 h0 a2;go_enter func147,ntmps147;go_wp2_with fail;refine E.mono ?_;rintro e w1 ⟨rfl,h1,I⟩;go_wp2;go_ret;exact⟨rfl,Upd.called h1 I⟩
end
structure Env (w:World):Prop where
 tab:Lib.TabIs prog w "internal/strconv.uint64pow10" .u64 Lib.pow10Tab
 syn:∃t p,w.var? prog "strconv.ErrSyntax" =some #[.iface t p]
 rng:∃t p,w.var? prog "strconv.ErrRange" =some #[.iface t p]
noncomputable def gOf (n:String):Nat:=(prog.globalNamed n).getD 0
noncomputable def NG:Nat:=max (gOf "internal/strconv.uint64pow10") (max (gOf "strconv.ErrSyntax") (gOf "strconv.ErrRange"))+1
theorem sz3 {w w':World} {G:List Nat} {n:String} {cs:Array Value} {g:Nat} (C:prog.globalNamed n=some g) (h:w.var? prog n=some cs) (c:Chg G w w') (E:g∉G):w'.var? prog n=some cs:=by
 unfold World.var? at h ⊢;rw[C]at h ⊢;simp only[Option.bind_some]at h ⊢;have H:w'.heap[g]?=w.heap[g]?:=c.block g (by
  cases z:w.heap[g]? with
  |none=>rw[z]at h;cases h
  |some o=>exact(E_.1 z).1) E
 rw[H];exact h
theorem nk3 {n:String} (h:(prog.globalNamed n).isSome=true):prog.globalNamed n=some (gOf n):=by
 unfold gOf
 cases o:prog.globalNamed n with
 |none=>rw[o]at h;cases h
 |some g=>rfl
theorem wq5:prog.globalNamed "internal/strconv.uint64pow10" =some (gOf "internal/strconv.uint64pow10"):=nk3 (by kernel_rfl)
theorem sv5:prog.globalNamed "strconv.ErrSyntax" =some (gOf "strconv.ErrSyntax"):=nk3 (by kernel_rfl)
theorem wj5:prog.globalNamed "strconv.ErrRange" =some (gOf "strconv.ErrRange"):=nk3 (by kernel_rfl)
theorem xk4 {w:World} {n:String} {cs:Array Value} {g:Nat} (C:prog.globalNamed n=some g) (h:w.var? prog n=some cs):g < (w:Nat):=by
 unfold World.var? at h;rw[C]at h;simp only[Option.bind_some]at h
 cases z:w.heap[g]? with
 |none=>rw[z]at h;cases h
 |some o=>exact(E_.1 z).1
theorem Env.base {w:World} (h:Env w):NG<=(w:Nat):=by
 obtain⟨h1,⟨t2,o,h2⟩,⟨t3,z,h3⟩⟩:=h;have C:=xk4 wq5 h1;have E:=xk4 sv5 h2;have H:=xk4 wj5 h3;unfold NG;omega
theorem Env.chg {w w':World} {G:List Nat} (h:Env w) (c:Chg G w w') (z:∀g∈G,NG<=g):Env w':=by
 have C:=wq5;have E:=sv5;have H:=wj5;have O:gOf "internal/strconv.uint64pow10" < NG:=by unfold NG;omega
 have Q:gOf "strconv.ErrSyntax" < NG:=by unfold NG;omega
 have U:gOf "strconv.ErrRange" < NG:=by unfold NG;omega
 obtain⟨h1,⟨t2,I,h2⟩,⟨t3,J,h3⟩⟩:=h;exact⟨sz3 C h1 c (fun o=>by have:=z _ o;omega),⟨t2,I,sz3 E h2 c (fun o=>by have:=z _ o;omega)⟩,⟨t3,J,sz3 H h3 c (fun o=>by have:=z _ o;omega)⟩⟩
theorem Env.below {w w':World} (h:Env w) (o:Below w w w'):Env w':=h.chg (Chg.of_below o []) (fun g z=>by cases z)
theorem name_any (k:ByteArray) (hk:k.size<=1000) (n:Int) (I:-9223372036854775808<=n/\n<=9223372036854775807) (w:World) (h:Env w):
  Calls prog 40 #[.string k,n] w fun e w'=>e=.returned (.string (str (Mn.name k.data.toList n)))/\Below w w w':=by
 by_cases H:Mn.fits n=true
 ·have h1:1<=n/\n<=1073741824:=by simp[Mn.fits]at H;omega
  obtain⟨h1,h2⟩:=h1;have e0:(n < 1)=False:=by simp;omega
  have e1:((1073741824:Int) < n)=False:=by simp;omega
  by_cases o:Mn.isKind k.data.toList=true
  ·have z:Mn.name k.data.toList n=k.data.toList++[46] ++Lib.itoa n:=by rw[Mn.name,if_pos (by simp[H,o])]
   have E:(str (Mn.name k.data.toList n))=k++⟨#[46]⟩++⟨(Lib.itoa n).toArray⟩:=by
    rw[z];apply ByteArray.ext;simp[str]
   rw[E];have O:=Any.strconv_Itoa Tryz.laysM171 n I.1 I.2 w h.tab;have U:=Lib.itoa_length_le n I.1 I.2;clear z E h H;have Q:k=str Mn.kLog\/k=str Mn.kTab\/k=str Mn.kMan:=by
    simp only[Mn.isKind,bU_,beq_iff_eq]at o;rw[<-ek1 k]
    rcases o with h|h|h<;>rw[h] <;>simp
   clear o
   rcases Q with rfl|rfl|rfl
   all_goals
    unfold str
    first|unfold Mn.kLog|unfold Mn.kTab|unfold Mn.kMan
    go_enter func40,ntmps40;go_wp2_with fail;refine O.mono ?_;rintro e w1 ⟨rfl,q,os,rfl⟩;go_wp2;go_ret;exact⟨rfl,Lib.below_grow _ _ l_ _ _⟩
  ·have z:Mn.name k.data.toList n=[]:=by rw[Mn.name,if_neg (by simp[o])]
   have C:str []=⟨#[]⟩:=rfl;rw[z,C];have J:∀l:List UInt8,k.data.toList≠l->(k.toList==l)=false:=fun l h=>by
    rw[ByteArray.toList_eq];simpa using h
   have hd:k.data.toList≠Mn.kLog/\k.data.toList≠Mn.kTab/\k.data.toList≠Mn.kMan:=by
    simpa [Mn.isKind] using o
   obtain⟨d1,d2,d3⟩:=hd;have b1:=J _ d1;have b2:=J _ d2;have b3:=J _ d3;unfold Mn.kLog at b1;unfold Mn.kTab at b2;unfold Mn.kMan at b3;clear J z C d1 d2 d3 o H h;go_enter func40,ntmps40;go_wp2;go_ret;exact⟨rfl,Below.refl _ _⟩
 ·have he:Mn.name k.data.toList n=[]:=by rw[Mn.name,if_neg (by simp[H])]
  rw[he];have C:str []=⟨#[]⟩:=rfl;rw[C];have h1:n < 1\/1073741824 < n:=by simp[Mn.fits]at H;omega
  clear he H
  rcases h1 with h1|h1
  ·go_enter func40,ntmps40
   go_wp2;go_ret;exact⟨rfl,Below.refl _ _⟩
  ·have h2:(n < 1)=False:=by simp;omega
   go_enter func40,ntmps40;go_wp2;go_ret;exact⟨rfl,Below.refl _ _⟩
theorem iz5 (s:ByteArray) (I:s.size<=1000000) (w:World) (h:Env w):
  Calls prog 196 #[.string s] w fun e w'=>∃(v:Int) (z:Value),e=.returned (.tuple #[v,z])/\((Mn.okOf (Lib.atoiAll s.data.toList)=some v/\z=.nilIface/\-9223372036854775808<=v/\v<=9223372036854775807)\/(Mn.okOf (Lib.atoiAll s.data.toList)=none/\∃t p,z=.iface t p))/\Below w w w':=by
 cases o:Lib.atoiAll s.data.toList with
 |ok v=>
  refine(Any.strconv_Atoi_ok Tryz.laysC172 s o_ v o w).mono ?_;rintro e w1 ⟨rfl,h1⟩;refine⟨_,_,rfl,.inl ⟨rfl,rfl,Lib.atoiAll_bounds o⟩,?_⟩
  rcases h1 with rfl|⟨t,rfl⟩
  ·exact Below.refl _ _
  ·exact Joins.below_bytesWorld _ _ _ _ l_
 |range=>
  obtain⟨C,p,E⟩:=h.rng;refine(Any.strconv_Atoi_range_var Tryz.laysC172 s o_ o C p w E).mono ?_;rintro e w1 ⟨N,rfl,_,_,H⟩;exact⟨_,_,rfl,.inr ⟨rfl,_,_,rfl⟩,H⟩
 |_=>
  obtain⟨C,p,E⟩:=h.syn;refine(Any.strconv_Atoi_syntax_var Tryz.laysC172 s o_ o C p w E).mono ?_;rintro e w1 ⟨N,rfl,_,_,H⟩;exact⟨_,_,rfl,.inr ⟨rfl,_,_,rfl⟩,H⟩
def numV (o:Option Int):Value:=match o with
 |some v=>.tuple #[v,.bool true]
 |none=>.tuple #[.int .i64 0,.bool false]
theorem pv1 (s k:ByteArray) (hs:s.size<=100000) (hk:k.size<=1000) (w:World) (h:Env w):
  Calls prog 145 #[.string s,.string k] w fun e w'=>e=.returned (numV (Mn.number s.data.toList k.data.toList))/\Below w w w':=by
 have hcut:=fun p=>Any.strings_CutPrefix lays103 s p w;have z:=fun u hu w1 J=>iz5 u hu w1 J;have C:(k++⟨#[46]⟩).data.toList=k.data.toList++[46]:=by simp
 have hcut:=hcut (k++⟨#[46]⟩);rw[C]at hcut
 cases hp:Lib.hasPrefix s.data.toList (k.data.toList++[46]) with
 |false=>
  have hn:Mn.number s.data.toList k.data.toList=none:=by rw[Mn.number,if_neg (by simp[hp])]
  rw[hn,numV];have E:Lib.trimPrefix s.data.toList (k.data.toList++[46])=s.data.toList:=by rw[Lib.trimPrefix,if_neg (by simp[hp])]
  rw[hp,E]at hcut;have a8:(⟨s.data.toList.toArray⟩:ByteArray)=s:=by simp
  rw[a8]at hcut;have z:=z s o_ w h;clear hp hn E C a8;go_enter func145,ntmps145;go_wp2_with fail;refine hcut.mono ?_;rintro e w1 ⟨rfl,rfl⟩;go_wp2_with fail;refine z.mono ?_;rintro e w1 ⟨v,ev,rfl,I,H⟩;go_wp2;go_ret2;exact⟨rfl,H⟩
 |true=>
  have E:Lib.trimPrefix s.data.toList (k.data.toList++[46])=s.data.toList.drop (k.data.toList.length+1):=by rw[Lib.trimPrefix,if_pos hp];simp
  rw[hp,E]at hcut;obtain⟨T,hT⟩:∃T:ByteArray,T=⟨(s.data.toList.drop (k.data.toList.length+1)).toArray⟩:=⟨_,rfl⟩;have O:T.data.toList=s.data.toList.drop (k.data.toList.length+1):=by rw[hT]
  have a2:T.size<=1000000:=by
   have:T.size=T.data.toList.length:=by simp
   rw[this,O,I_];have:s.data.toList.length=s.size:=by simp
   omega
  rw[<-hT]at hcut;have z:=z T a2 w h;rw[O]at z;have o:Mn.number s.data.toList k.data.toList=match Mn.okOf (Lib.atoiAll (s.data.toList.drop (k.data.toList.length+1))) with
   |some v=>if Mn.name k.data.toList v=s.data.toList then some v else none
   |none=>none:=by rw[Mn.number,if_pos hp];first|done|rfl
  cases Q:Mn.okOf (Lib.atoiAll (s.data.toList.drop (k.data.toList.length+1))) with
  |none=>
   rw[Q]at o z;simp only at o;rw[o,numV];have U:=H_ z;clear z hp E C hT O a2 o Q;go_enter func145,ntmps145;go_wp2_with fail;refine hcut.mono ?_;rintro e w1 ⟨rfl,rfl⟩;go_wp2_with fail;refine U.mono ?_;rintro e w1 ⟨v,ev,rfl,I,H⟩
   rcases I with ⟨h1,_⟩|⟨_,t,p,rfl⟩
   ·cases h1
   ·go_wp2
    go_ret2;exact⟨rfl,H⟩
  |some v=>
   rw[Q]at o z;simp only at o;have J:∀w1,Below w w w1->Env w1:=fun w1 H=>h.below H;have a0:=fun(hv:-9223372036854775808<=v/\v<=9223372036854775807) w1 H=>name_any k hk v hv w1 (J w1 H)
   by_cases heq:Mn.name k.data.toList v=s.data.toList
   ·rw[if_pos heq]at o
    rw[o,numV];rw[heq,ek1]at a0;have U:=H_ z;have a4:=H_ a0;clear z hp E C hT O a2 o Q a0 heq J;go_enter func145,ntmps145;go_wp2_with fail;refine hcut.mono ?_;rintro e w0 ⟨rfl,a5⟩;obtain rfl:=a5.symm;go_wp2_with fail;refine U.mono ?_;rintro e w1 ⟨v',ev,rfl,I,H⟩
    rcases I with ⟨h1,rfl,hv⟩|⟨h1,_⟩
    ·injection h1 with h1
     subst h1;go_wp2_with fail;refine(a4.out hv w1 H).mono ?_;rintro e w2 ⟨rfl,a6⟩;have a7:Below w w w2:=H.trans (a6.mono H.size);go_wp2;go_ret2;exact⟨rfl,a7⟩
    ·cases h1
   ·rw[if_neg heq]at o
    rw[o,numV];have b7:((str (Mn.name k.data.toList v)).toList==s.toList)=false:=by
     rw[ByteArray.toList_eq,ByteArray.toList_eq,kz];simpa using heq
    generalize str (Mn.name k.data.toList v)=nm at *;have U:=H_ z;have a4:=H_ a0;clear z hp E C hT O a2 o Q a0 heq J;go_enter func145,ntmps145;go_wp2_with fail;refine hcut.mono ?_;rintro e w0 ⟨rfl,a5⟩;obtain rfl:=a5.symm;go_wp2_with fail;refine U.mono ?_;rintro e w1 ⟨v',ev,rfl,I,H⟩
    rcases I with ⟨h1,rfl,hv⟩|⟨h1,_⟩
    ·injection h1 with h1
     subst h1;go_wp2_with fail;refine(a4.out hv w1 H).mono ?_;rintro e w2 ⟨rfl,a6⟩;have a7:Below w w w2:=H.trans (a6.mono H.size);go_wp2;go_ret2;exact⟨rfl,a7⟩
    ·cases h1
section
open Go.Maps
theorem append_eq (S:Sd) (s b:List UInt8):S.append s b=if (S.call [s]).2≠0 then S.call [s] else match S.names.get s with
  |none=>((S.call [s]).1,11)
  |some i=>if 250000 < b.length\/250000 < S.size i+b.length then ((S.call [s]).1,2) else if S.quota < S.used+b.length then ((S.call [s]).1,15)
   else ({ (S.call [s]).1 with files:=S.files.set i ((S.files.getD i ([],0)).1++b,(S.files.getD i ([],0)).2) },0):=rfl
theorem Row.zk2 {w w':World} {B n size:Nat} {A:Option Addr} {xs:List Value} {G:List Nat} (r:Row B w A n size xs) (h:Chg G w w') (o:B<=(w:Nat)) (hF:∀a,A=some a->a.block∉G):Row w' w' A n size xs:=
 (h.row r o hF).up (g_ o h.size)
theorem DK.drew {w:World} {X:Dw} {S:Sd} (h:DK w X S):DK w.drew X S:=h.chg ((Chg.refl [] w).drew) (fun g o=>by cases o)
theorem xj5 {w w4:World} {X:Dw} {S:Sd} (h:DK w X S) {i:Nat} (hi:i < S.files.length) (o:i < X.ps.length) {b:List UInt8} {v:Value} (E:w.grownBy w4 (X.ps[i]).2.ownBlock)
  (I:w4.ownsRow 0 5 1 v ((S.files[i]).1.length+b.length) (bts (S.files[i]).1++bts b)) (a2:v.ownBlock=(X.ps[i]).2.ownBlock\/v.ownBlock=some (w:Nat)):
  (w4.cell? ⟨(X.ps[i]).1,0,none⟩=some (X.ps[i]).2/\w4.frozen? ⟨(X.ps[i]).1,0,none⟩=false)/\Upd X w (w4.setCell ⟨(X.ps[i]).1,0,none⟩ v) { S with files:=S.files.set i ((S.files[i]).1++b,(S.files[i]).2) }:=by
 have H:=h.file i hi o;have z:=h.apart.self _ (w_ o);have hv:∀g,v.ownBlock=some g->(X.ps[i]).2.ownBlock=some g\/(w:Nat)<=g:=fun g e=>by
  rcases a2 with h1|h1
  ·exact .inl (by rw[<-h1,e])
  ·rw[e]at h1
   injection h1 with h1;exact .inr o_
 have key:=fun(w2:World) (hf:rw1 w2 ((X.ps[i]).1,v) ((S.files[i]).1++b,(S.files[i]).2)) (c:Chg (gq X.ps[i]) w w2)=>DK.qw h o hf c hv;have a5:=ux2 o hv;have J:=fun g E=>nk1 (X:=X) (i:=i) o (g:=g) E;generalize S.files[i]=f at *;generalize X.ps[i]=p at *;obtain⟨O,b0⟩:=H;have Q:Chg p.2.ownBlock.toList w w4:=Chg.qy E (fun b e=>by simp[e]);have C:=O.chg Q (fun hm=>z (by simpa using hm));have U:=C.store 0 v;have a6:=tq w4 ⟨p.1,0,none⟩ v;have a7:∀g,v.ownBlock=some g->g≠p.1:=fun g e e2=>by
  subst e2
  rcases hv _ e with h1|h1
  ·exact z h1
  ·have:=O.lt
   omega
 have a0:=jv I a6 (fun g e E=>a7 g e (by simpa using E));have a1:Chg (gq p) w (w4.setCell p.1 v):=(Q.mono (G:=gq p) (fun g E=>.inl (by simp only[gq,h_];exact .inr E))).setCell v (.inl (by simp[gq]));have a8:=key _ ⟨U,by simpa [zj1] using a0⟩ a1;have e0:=C.c0;exact⟨⟨e0,C.free 0⟩,⟨{ X with ps:=X.ps.set i (p.1,v) },rfl,a8,a1.mono (fun g E=>.inl (J g E)),a5⟩⟩
theorem xk1 (X:Dw) (S:Sd) (s:ByteArray) (hs:s.size<=maxLen) (A:Option Addr) (m c:Nat) (b:List UInt8) (hm:m<=1099511627776) (hw:S.Wf) (w:World) (h:DK w X S) (hr:Row w w A m 1 (bts b)) (hA:∀a,A=some a->a.block≠X.d):
  Calls prog 184 #[X.d,.string s,.slice A m c] w fun e w'=>e=.returned (.int .i64 ((S.append s.data.toList b).2:Int))/\Upd X w w' (S.append s.data.toList b).1:=by
 have z:=jk5 X S s hs hw w h;have a0:=hw.call [s.data.toList];have a2:b.length=m:=hr.xk;obtain⟨e1,e2,e3,e4,e5,_,_⟩:=Sd.ny S [s.data.toList];have e6:=Sd.uj4 S [s.data.toList];have o:=append_eq S s.data.toList b;generalize S.call [s.data.toList]=R at *;obtain⟨S1,er⟩:=R;simp only at *
 by_cases h0:er=0
 ·subst h0
  rw[if_neg s_]at o;have I:=fun w1 h1=>find_any X S1 s hs w1 h1 a0.names
  cases h3:S.names.get s.data.toList with
  |none=>
   simp only[h3]at o;rw[o];simp only[e1,h3]at I;clear o h3 e1 e2 e3 e4 e5 e6 a0 hw h a2;go_enter func184,ntmps184;go_wp2_with fail;refine z.mono ?_;rintro e w1 ⟨rfl,h1,C⟩;go_wp2_with fail;refine(I w1 h1).mono ?_;rintro e Q ⟨rfl,rfl⟩;go_wp2;go_ret;exact⟨rfl,Upd.called h1 C⟩
  |some i=>
   simp only[h3]at o;simp only[e1,h3]at I;have hi:i < S1.files.length:=by rw[e3];exact hw.names _ (Nm.get_mem h3)
   have d1:S.size i=(S1.files[i]).1.length:=by simp[Sd.size,<-e3,t_,hi]
   have d2:S.files.getD i ([],0)=S1.files[i]:=by simp[<-e3,t_,hi]
   have e':=(a0.file i hi).2;have f0:=Sd.sk5 a0;have hq:=a0.quota;rw[d2,d1,<-e3,<-e5,<-e6,a2]at o;obtain⟨p,hp⟩:=n_ (X.ps.getD i (0,Go.undef));rw[<-hp]at I;have hE:∀(w1:World) (h1:DK w1 X S1),∃fA fc,p.2=.slice fA (S1.files[i]).1.length fc/\w1.cell? p.1=some (.slice fA (S1.files[i]).1.length fc):=fun w1 h1=>by
    have E:i < X.ps.length:=by rw[h1.flen];exact hi
    have J:X.ps.getD i (0,Go.undef)=X.ps[i]:=by simp[t_,E]
    obtain⟨h9,h'⟩:=h1.file i hi E;obtain⟨fA,fc,f1,_⟩:=ay h';have e0:=h9.c0;rw[hp,J];exact⟨fA,fc,f1,by rw[e0,f1]⟩
   by_cases O:250000 < m\/250000 < (S1.files[i]).1.length+m
   ·rw[if_pos O]at o
    rw[o];have HE:=H_ hE;clear hp hE o d1 d2 h3 e1 e2 e3 e4 e5 e6 hw a2 h f0 hq;generalize (S1.files[i]).1.length=F at *
    by_cases j3:250000 < m
    ·have b6:(250000:Int) < (m:Int):=o_
     go_enter func184,ntmps184;go_wp2_with fail;refine z.mono ?_;rintro e w1 ⟨rfl,h1,C⟩;go_wp2_with fail;refine(I w1 h1).mono ?_;rintro e Q ⟨rfl,rfl⟩;unfold ptrV;go_wp2;go_ret;exact⟨rfl,Upd.called h1 C⟩
    ·have b6:((250000:Int) < (m:Int))=False:=by simp;omega
     have a4:(250000:Int) - (m:Int) < (F:Int):=o_
     go_enter func184,ntmps184;go_wp2_with fail;refine z.mono ?_;rintro e w1 ⟨rfl,h1,C⟩;go_wp2_with fail;refine(I w1 h1).mono ?_;rintro e Q ⟨rfl,rfl⟩;obtain⟨fA,fc,_,e0⟩:=HE.out w1 h1;unfold ptrV;go_wp2;go_ret;exact⟨rfl,Upd.called h1 C⟩
   ·rw[if_neg O]at o
    have b6:((250000:Int) < (m:Int))=False:=by simp;omega
    have a4:((250000:Int) - (m:Int) < ((S1.files[i]).1.length:Int))=False:=by simp;omega
    have i9:(250000:Int) - (m:Int)<=250000:=o_
    have j4:m<=250000:=o_
    have E:∀w1,DK w1 X S1->i < X.ps.length:=fun w1 h1=>by rw[h1.flen];exact hi
    have b7:∀(w1 w4:World) (v:Value) (h1:DK w1 X S1) (hg:w1.grownBy w4 p.2.ownBlock) (b8:w4.ownsRow 0 5 1 v ((S1.files[i]).1.length+m) (bts (S1.files[i]).1++bts b)) (d3:v.ownBlock=p.2.ownBlock\/v.ownBlock=some w1.heap.size),
      (w4.cell? p.1=some p.2/\w4.frozen? p.1=false)/\Upd X w1 (w4.setCell p.1 v) { S1 with files:=S1.files.set i ((S1.files[i]).1++b,(S1.files[i]).2) }:=fun w1 w4 v h1 hg b8 d3=>by
     have J:p=X.ps[i]'(E w1 h1):=by rw[hp];simp[t_,E w1 h1]
     rw[J]at hg d3 ⊢;exact xj5 h1 hi (E w1 h1) hg (by rw[a2];exact b8) d3
    have b9:∀w1,DK w1 X S1->w1.ownsRow 0 5 1 p.2 (S1.files[i]).1.length (bts (S1.files[i]).1):=fun w1 h1=>by
     have J:p=X.ps[i]'(E w1 h1):=by rw[hp];simp[t_,E w1 h1]
     rw[J];exact(h1.file i hi (E w1 h1)).row
    have HE:=H_ hE;have b':=H_ b7;have c9:=H_ b9;have U:=fun w1 h1=>ey5 X S1 w1 h1 a0.names (g_ f0 o_);clear hE hp b7 b9 d1 d2 h3 e1 e2 e3 e4 e5 e6 hw a2 h O E;have f3:∀w1,DK w1 X S1->w1.cell? X.d=some (.int .i64 S1.quota):=fun w1 h1=>by rw[h1.box.cell 0];rfl
    have b0:=H_ f3;clear f3;obtain⟨i0,i1,i2,i3,i4⟩:=info_parts gv1;have a5:IntKind.i64.wrap ((S1.quota:Int) - (m:Int))=(S1.quota:Int) - (m:Int):=by
     have hb:-9223372036854775808<=(S1.quota:Int) - (m:Int)/\(S1.quota:Int) - (m:Int)<=9223372036854775807:=o_
     rw[IntKind.wrap_i64];have hw:=IntWalk.wrap64_in _ hb;unfold wrap64 at hw;exact hw
    have f4:=H_ a5;clear a5
    by_cases b1:S1.quota < S1.used+m
    ·rw[if_pos b1]at o
     rw[o];have f5:(S1.quota:Int) - (m:Int) < (S1.used:Int):=o_
     clear o b1;generalize (S1.files[i]).1.length=F at *;go_enter func184,ntmps184;go_wp2_with fail;refine z.mono ?_;rintro e w1 ⟨rfl,h1,C⟩;go_wp2_with fail;refine(I w1 h1).mono ?_;rintro e Q ⟨rfl,rfl⟩;obtain⟨fA,fc,b2,e0⟩:=HE.out w1 h1;have q0:=b0.out w1 h1;have a6:=H_ U;clear U b2;unfold ptrV;go_wp2;have a5:=f4.out
     go_region_with ((go_at_call 233;refine(a6.out _ h1.drew).mono ?_;rintro e Q ⟨rfl,H⟩;have q0:=b0.out Q (h1.drew.below H)))
     all_goals
      have b3:Upd X w Q S1:=Upd.called (h1.drew.below H) (C.trans ((Chg.refl [X.d] w1).drew.trans (Chg.of_below H [X.d]) (fun g hg=>.inl hg)) (fun g hg=>.inl hg));clear q0;go_wp2;go_ret;exact⟨rfl,b3⟩
    ·rw[if_neg b1]at o
     rw[o];have f5:((S1.quota:Int) - (m:Int) < (S1.used:Int))=False:=by simp;omega
     clear o b1;obtain⟨f,hf⟩:=n_ (S1.files[i]);rw[<-hf]at c9 b' HE a4 e' ⊢;clear hf;go_enter func184,ntmps184;go_wp2_with fail;refine z.mono ?_;rintro e w1 ⟨rfl,h1,C⟩;go_wp2_with fail;refine(I w1 h1).mono ?_;rintro e Q ⟨rfl,rfl⟩;obtain⟨fA,fc,b2,e0⟩:=HE.out w1 h1;have d4:=H_ b2;have q0:=b0.out w1 h1;have a6:=H_ U;have f6:=H_ (Row.zk2 hr C l_ (fun a e hg=>hA a e (by simpa using hg)));clear U b2;unfold ptrV;go_wp2;have a5:=f4.out
     go_region_with ((go_at_call 233;refine(a6.out _ h1.drew).mono ?_;rintro e Q ⟨rfl,H⟩;have q0:=b0.out Q (h1.drew.below H)))
     all_goals
      have h2:=h1.drew.below H;have i5:Chg [X.d] w Q:=C.trans ((Chg.refl [X.d] w1).drew.trans (Chg.of_below H [X.d]) (fun g hg=>.inl hg)) (fun g hg=>.inl hg);have i6:=H_ ((f6.out.drew.below H).arg (g_ s_ H.size));have e2:Q.cell? p.1=some (.slice fA f.1.length fc):=by
       obtain⟨j7,j8,h7,h8⟩:=HE.out Q h2;rw[h8,<-h7,d4.out]
      have d5:=c9.out Q h2;rw[d4.out]at d5;have f7:=H_ d5;have d6:=fun w4 v=>b'.out Q w4 v h2;rw[d4.out]at d6;have f8:=H_ d6;clear q0 e0 d5 d6 f6 a5 a4;go_wp2_with (at_builtin;refine iq ?_);refine gz (sk3 rfl (.tmp 52) (.tmp 53) _ rfl 0 5 i0 _ 1 1 underlying77 i1 i2 i3 i4 rfl o_ z_ (.slice fA f.1.length fc) f.1.length _ rfl f7.out _ A m c (bts b) rfl i6.out (by1 _) (f.1.length+m) _ rfl rfl (by unfold maxLen;omega) o_ ?_);intro A4 c4 w4 a7 f9 _ _ d0;obtain⟨⟨q4,q5⟩,g4⟩:=f8.out _ _ f9 a7 d0;have HU:=H_ (Upd.after i5 g4);clear a7 f9 d0 f7 f8 g4 e2;go_wp2;go_ret;exact⟨rfl,HU⟩
 ·have k1:=neq0 h0
  rw[if_pos h0]at o;rw[o];clear o e1 e2 e3 e4 e5 h0 e6;go_enter func184,ntmps184;go_wp2_with fail;refine z.mono ?_;rintro e w1 ⟨rfl,h1,C⟩;go_wp2;go_ret;exact⟨rfl,Upd.called h1 C⟩
theorem call2 (X:Dw) (S:Sd) (s u:ByteArray) (C:s.size<=maxLen) (E:u.size<=maxLen) (o:S.Wf) (w:World) (h:DK w X S):
  Calls prog 146 #[X.d,.slice (some (w:Nat)) 2 2] (w.alloc (.cells #[.string s,.string u] 9)) fun e w'=>e=.returned (.int .i64 ((S.call [s.data.toList,u.data.toList]).2:Int))/\DK w' X (S.call [s.data.toList,u.data.toList]).1/\Chg [X.d] w w':=by
 have z:Below w w (w.alloc (.cells #[.string s,.string u] 9)):=b_ _ _;refine(zq2 X S (some ⟨w,0,none⟩) 2 2 [s,u] o_ (by simp;exact⟨C,E⟩) o.stop o.fail _ (h.below z) ?_).mono ?_
 ·exact(Row.new w #[.string s,.string u] 9 (n:=2) (size:=1) rfl).up s_
 ·rintro e w' ⟨rfl,h1,h2⟩
  exact⟨rfl,h1,(Chg.of_below z [X.d]).trans h2 (fun g H=>.inl H)⟩
theorem jw4 (X:Dw) (S:Sd) (s u:ByteArray) (hs:s.size<=maxLen) (hu:u.size<=maxLen) (hw:S.Wf) (hl:S.load<=1099511627776) (w:World) (h:DK w X S):
  Calls prog 177 #[X.d,.string s,.string u] w fun e w'=>e=.returned (.int .i64 ((S.rename s.data.toList u.data.toList).2:Int))/\Upd X w w' (S.rename s.data.toList u.data.toList).1:=by
 have C:=call2 X S s u hs hu hw w h;have a7:=hw.call [s.data.toList,u.data.toList];have a1:=Sd.dz1 S [s.data.toList,u.data.toList];obtain⟨e1,e2,e3,e4,e5,_,_⟩:=Sd.ny S [s.data.toList,u.data.toList];have z:S.rename s.data.toList u.data.toList=if (S.call [s.data.toList,u.data.toList]).2≠0 then S.call [s.data.toList,u.data.toList] else if (S.names.get s.data.toList).isNone then ((S.call [s.data.toList,u.data.toList]).1,11)
  else if s.data.toList=u.data.toList then ((S.call [s.data.toList,u.data.toList]).1,0)
  else ({ (S.call [s.data.toList,u.data.toList]).1 with names:=Tn.go ⟨2,0,s.data.toList,u.data.toList⟩ S.names,turns:=S.turns++[⟨2,0,s.data.toList,u.data.toList⟩] },0):=rfl
 generalize S.call [s.data.toList,u.data.toList]=R at *;obtain⟨S1,er⟩:=R;simp only at *
 by_cases h0:er=0
 ·subst h0
  rw[if_neg s_]at z;have Q:=fun w1 h1=>find_any X S1 s hs w1 h1 a7.names
  cases h3:S.names.get s.data.toList with
  |none=>
   simp only[h3,Option.isNone_none,if_true]at z;rw[z];simp only[e1,h3]at Q;clear z h3 e1 e2 e3 e4 e5 a7 hw h a1;go_enter func177,ntmps177;go_wp2_with fail;refine C.mono ?_;rintro e w1 ⟨rfl,h1,I⟩;go_wp2_with fail;refine(Q w1 h1).mono ?_;rintro e w2 ⟨rfl,rfl⟩;go_wp2;go_ret;exact⟨rfl,Upd.called h1 I⟩
  |some i=>
   simp only[h3,bV_,ai_,if_false]at z
   by_cases b0:s=u
   ·subst b0
    rw[if_pos rfl]at z;rw[z];simp only[e1,h3]at Q;clear z h3 e1 e2 e3 e4 e5 a7 hw h a1;go_enter func177,ntmps177;go_wp2_with fail;refine C.mono ?_;rintro e w1 ⟨rfl,h1,I⟩;go_wp2_with fail;refine(Q w1 h1).mono ?_;rintro e w2 ⟨rfl,rfl⟩;unfold ptrV;go_wp2;go_ret;exact⟨rfl,Upd.called h1 I⟩
   have a2:¬s.data.toList=u.data.toList:=fun e=>b0 (by rw[<-ek1 s,e,ek1]);rw[if_neg a2]at z;have f7:(s.toList==u.toList)=false:=by
    rw[ByteArray.toList_eq,ByteArray.toList_eq];simpa using a2
   clear b0 a2;rw[z,<-e1,<-e4];simp only[e1,h3]at Q;have f9:S1.turns.length+1<=1099511627777:=by unfold Sd.load at a1 hl;omega
   clear z h3 e1 e2 e3 e4 e5 hw h a1;go_enter func177,ntmps177;go_wp2_with fail;refine C.mono ?_;rintro e w1 ⟨rfl,h1,I⟩;go_wp2_with fail;refine(Q w1 h1).mono ?_;rintro e w2 ⟨rfl,rfl⟩;unfold ptrV;go_wp2;have b7:Below w1.heap.size w1 (w1.alloc (.cells #[.int .i64 2,.int .i64 0,.string s,.string u] 81)):=b_ _ _;have H:=BoxO.new w1 #[.int .i64 2,.int .i64 0,.string s,.string u] 81;have g4:w1.heap.size < (w1.alloc (.cells #[.int .i64 2,.int .i64 0,.string s,.string u] 81)).heap.size:=by simp
   have h2:=h1.below b7;have b8:=Chg.of_below b7 X.foot;generalize w1.alloc (.cells #[.int .i64 2,.int .i64 0,.string s,.string u] 81)=V at *;have c0:=H.cell 0;have c1:=H.cell 1;have c2:=H.cell 2;have c3:=H.cell 3;have d2:=h2.box.cell 2;simp only[Dw.cells,gE0,gE1]at c0 c1 c2 c3 d2;have d7:=h1.lt;have O:=H_ h2.names;have d8:S1.names.length < maxLen:=by have:=a7.most;unfold maxLen;omega
   generalize w1.heap.size=tb at *
   go_still_tail 5,(by kernel_rfl)
   change wpList _ _ _ _ _ (World.drew V);go_wp2_with fail;have b1:=ox4 2 0 s.data.toList u.data.toList (by simpa using hs) (by simpa using hu) o_ X.nb S1.names.length S1.names V.drew O.out.drew d8 o_;simp only[sq3,ek1]at b1;refine b1.mono ?_;rintro e w3 ⟨rfl,b9,d9⟩;have a4:Chg [X.nb] V w3:=(Chg.refl [X.nb] V).drew.trans d9 (fun g hg=>.inl hg);have h3:=h2.qj1 b9 a4;have E:=H.chg a4 (by simp;have:=d7 X.nb (aj.2 (.inr (.inl rfl)));omega);have c0:=E.cell 0;have c1:=E.cell 1;have c2:=E.cell 2;have c3:=E.cell 3;have d4:=h3.box.cell 4;have f4:=h3.box.free 4;have g8:=h3.box.lt;obtain⟨tA,tc,U,_,_,_⟩:=ay h3.turns;simp only[Dw.cells,gE0,gE1]at c0 c1 c2 c3 d4;rw[U]at d4;clear d2 O b1 b9;have a5:=own_base h3.turns z_;rw[U]at a5;have a9:=fun(o:Obj) (w4:World) (hg:((w3.alloc o).drew).grownBy w4 (Value.slice tA S1.turns.length tc).ownBlock)=>(⟨(gj1 h3 (by rw[U];exact hg)).cell 4,(gj1 h3 (by rw[U];exact hg)).free 4⟩:w4.cell? (X.d,4)=_/\w4.frozen? (X.d,4)=false);have J:=fun(o:Obj) (w4:World) (v:Value) (hg:((w3.alloc o).drew).grownBy w4 (Value.slice tA S1.turns.length tc).ownBlock) b' e6=>yy3 (o:=o) (w4:=w4) (v:=v) h3 ⟨2,0,s.data.toList,u.data.toList⟩ (by rw[U];exact hg) b' (by rw[U];exact e6);simp only[lq,ek1]at J;have e7:=H_ J;have e9:=H_ a9;have c9:=fun(w5:World) (S5:Sd) (h:Upd X w3 w5 S5)=>Upd.after I (Upd.trans rfl (b8.trans (a4.mono (fun g hg=>.inl (by rw[c_.1 hg];exact aj.2 (.inr (.inl rfl))):∀g∈[X.nb],g∈X.foot\/_)) (fun g hg=>.inl hg)) (fun g hg=>.inl hg) h);have e':=H_ c9;clear J a9 c9;obtain⟨i0,f0,f1,f2,f3⟩:=info_parts jv2;go_wp2
   go_region_law (refine jw2 rfl (.tmp 39) (.tmp 41) _ rfl 0 81 i0 _ 4 48 underlying47 f0 f1 f2 f3 rfl o_ z_ (.slice tA S1.turns.length tc) S1.turns.length _ rfl (a5.alloc _).drew _ (some ⟨w3,0,none⟩) 1 1 o_ [.int .i64 2,.int .i64 0,.string s,.string u] rfl (Row.new w3 #[.int .i64 2,.int .i64 0,.string s,.string u] 81 (n:=1) (size:=4) rfl).drew (by simp[Value.oneCell']) (S1.turns.length+1) _ rfl rfl (by unfold maxLen;omega) o_ ?_;intro A4 c4 w4 a6 b2 _ _ a';obtain⟨q4,q5⟩:=e9.out _ _ b2;have HO:=H_ (e'.out _ _ (e7.out _ _ _ b2 a6 a'));clear b2 a6 a';simp only[Dw.cells,gE0,gE1]at q4)
   all_goals
    go_wp2;go_ret;exact⟨rfl,HO⟩
 ·have h':=neq0 h0
  rw[if_pos h0]at z;rw[z];clear z e1 e2 e3 e4 e5 h0 a1;go_enter func177,ntmps177;go_wp2_with fail;refine C.mono ?_;rintro e w1 ⟨rfl,h1,I⟩;go_wp2;go_ret;exact⟨rfl,Upd.called h1 I⟩
end
section
open Go.Proofs.Tryz Go Go.Shelf Go.RowKit
theorem vx4: "*" ++ "errors.errorString" = "*errors.errorString" :=by decide
theorem pj5 (u:TypeId) (h:prog.typeName? 3 u=some "*errors.errorString"):u=388:=
 typeName_ptr_named (nm:= "errors.errorString") (by rw[vx4];kernel_rfl) (by kernel_rfl) (by decide) u (by rw[vx4];exact h)
theorem ax6 {a b:String×DataW Unit} (W:World) (h:laidMet prog [a,b,("internal/strconv.uint64pow10",Rows.laid_internal_strconv_uint64pow10),("strconv.ErrRange",Rows.laid_strconv_ErrRange),("strconv.ErrSyntax",Rows.laid_strconv_ErrSyntax)] W):Env W:=by
 have h2:=h.tail.tail;have ht:Lib.TabIs prog W "internal/strconv.uint64pow10" .u64 Lib.pow10Tab:=
  Lib.tabIs_of_head (g:=gOf "internal/strconv.uint64pow10") (t:=359) (e:=22) (n:=20) wq5 (by kernel_rfl) underlying359 underlying22 (by kernel_rfl) (by kernel_rfl) h2
 obtain⟨a1,s1,hv1,_⟩:=laid_sentinel h2.tail (g:=gOf "strconv.ErrRange") wj5 (by kernel_rfl) underlying270 pj5 underlying388 underlying390 rfl rfl underlying9 (by kernel_rfl) (by kernel_rfl);obtain⟨a2,s2,hv2,_⟩:=laid_sentinel h2.tail.tail (g:=gOf "strconv.ErrSyntax") sv5 (by kernel_rfl) underlying270 pj5 underlying388 underlying390 rfl rfl underlying9 (by kernel_rfl) (by kernel_rfl);exact⟨ht,⟨_,_,hv2⟩,⟨_,_,hv1⟩⟩
end
end Go.Proofs.YtfbkjjdfboagfaaGreatDoor
