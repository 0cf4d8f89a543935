/- Texts DiskE, EditD, DiskJ, DiskF, DiskK, DiskH, DiskI in one. No conditions. -/
import Derived.Test.YthjdpplgfdihoaaGreatDoorBunAH
import Derived.Test.YthjdpplgfdihoaaGreatDoorBunAF
import Derived.Deep.CutBlock
import Derived.Test.YthjdpplgfdihoaaGreatDoorBunAG

set_option linter.unusedSimpArgs false
set_option linter.unusedVariables false
set_option maxRecDepth 100000
set_option maxHeartbeats 16000000
namespace Go.Proofs.YthjdpplgfdihoaaGreatDoor
section
open Go Go.RowKit Go.Maps
theorem tz4 (X:Dw) (S:Sd) (s:ByteArray) (hs:s.size≤maxLen) (hw:S.Wf) (w:World) (h:DK w X S):
  Calls Tryz.prog 75 #[.pointer (some ⟨X.d,0,none⟩),.slice (some ⟨w.heap.size,0,none⟩) 1 1] (w.alloc (.cells #[.string s] 9)) fun e w'=>e=.returned (.int .i64 ((S.call [s.data.toList]).2:Int))∧DK w' X (S.call [s.data.toList]).1∧Chg [X.d] w w':=by
 have hb:Below w.heap.size w (w.alloc (.cells #[.string s] 9)):=b_ _ _;refine(nw2 X S (some ⟨w.heap.size,0,none⟩) 1 1 [s] (by omega) (by simpa using hs) hw.stop hw.fail _ (h.below hb) ?_).mono ?_
 ·exact(Row.new w #[.string s] 9 (n:=1) (size:=1) rfl).up (by simp)
 ·rintro e w' ⟨rfl,h1,h2⟩
  exact⟨rfl,h1,(Chg.of_below hb [X.d]).trans h2 (fun g hg=>.inl hg)⟩
theorem oq4 (X:Dw) (S:Sd) (s:ByteArray) (hs:s.size≤maxLen) (hw:S.Wf) (w:World) (h:DK w X S):
  Calls Tryz.prog 25 #[.pointer (some ⟨X.d,0,none⟩),.string s] w fun e w'=>∃A c,e=.returned (.tuple #[.slice A (S.read s.data.toList).1.length c,.int .i64 ((S.read s.data.toList).2:Int)])∧
   w'.ownsRow w.heap.size 5 1 (.slice A (S.read s.data.toList).1.length c) (S.read s.data.toList).1.length (bts (S.read s.data.toList).1)∧Below w.heap.size w w':=by
 have nil:=fun W:World=>E_ W w.heap.size 5 1;have hnm:=zw1 s hs w;have hdd:=pz2 X.d S.dead w (by rw[h.box.cell 6];rfl);have hfd:=find_any X S s hs w h hw.names
 cases h1:Sd.named s.data.toList with
 |false=>
  have e1:S.read s.data.toList=([],10):=by simp[Sd.read,h1]
  rw[e1];rw[h1]at hnm;clear h1 e1;go_enter Tryz.func25,Tryz.ntmps25;go_wp2_with fail;refine hnm.mono ?_;rintro e w1 ⟨rfl,rfl⟩;go_wp2;go_ret2;exact⟨_,_,rfl,nil w,Below.refl _ _⟩
 |true=>
  rw[h1]at hnm
  cases h2:S.dead with
  |true=>
   have e1:S.read s.data.toList=([],50):=by simp[Sd.read,h1,h2]
   rw[e1];rw[h2]at hdd;clear h1 h2 e1;go_enter Tryz.func25,Tryz.ntmps25;go_wp2_with fail;refine hnm.mono ?_;rintro e w1 ⟨rfl,rfl⟩;go_wp2_with fail;refine hdd.mono ?_;rintro e w1 ⟨rfl,rfl⟩;go_wp2;go_ret2;exact⟨_,_,rfl,nil w,Below.refl _ _⟩
  |false=>
   rw[h2]at hdd
   cases h3:S.names.get s.data.toList with
   |none=>
    have e1:S.read s.data.toList=([],11):=by simp[Sd.read,h1,h2,h3]
    rw[e1];rw[h3]at hfd;clear h1 h2 h3 e1;go_enter Tryz.func25,Tryz.ntmps25;go_wp2_with fail;refine hnm.mono ?_;rintro e w1 ⟨rfl,rfl⟩;go_wp2_with fail;refine hdd.mono ?_;rintro e w1 ⟨rfl,rfl⟩;go_wp2_with fail;refine hfd.mono ?_;rintro e w1 ⟨rfl,rfl⟩;go_wp2;go_ret2;exact⟨_,_,rfl,nil w,Below.refl _ _⟩
   |some i=>
    have hi:i < S.files.length:=hw.names _ (Nm.get_mem h3);have hip:i < X.ps.length:=by rw[h.flen];exact hi
    have e1:S.read s.data.toList=(S.files[i].1,0):=by simp[Sd.read,h1,h2,h3,hi]
    rw[e1];rw[h3]at hfd;have hptr:X.ps.getD i (0,Go.undef)=X.ps[i]:=by simp[C_,hip]
    simp only[hptr,ptrV]at hfd;obtain⟨hfb,hfr⟩:=h.file i hi hip;have hlen:=(hw.file i hi).2;generalize S.files[i]=f at *;generalize X.ps[i]=p at *;have e0:=hfb.c0;obtain⟨fA,fc,hfv2,_,_,_⟩:=dw hfr;rw[hfv2]at e0 hfr;have hrow:=Row.own hfr;obtain⟨i0,hi0,hz0,hz1,hz2⟩:=info_parts eq1;clear h1 h2 h3 e1 hptr hfv2;go_enter Tryz.func25,Tryz.ntmps25;go_wp2_with fail;refine hnm.mono ?_;rintro e w1 ⟨rfl,rfl⟩;go_wp2_with fail;refine hdd.mono ?_;rintro e w1 ⟨rfl,rfl⟩;go_wp2_with fail;refine hfd.mono ?_;rintro e w1 ⟨rfl,rfl⟩;go_wp2_with fail;refine hfd.mono ?_;rintro e w1 ⟨rfl,rfl⟩;go_wp2_with (at_builtin;refine iy ?_);refine gz (ry rfl (.const (.slice none 0 0)) (.tmp 23) _ rfl w.heap.size 5 i0 _ 1 1 Tryz.underlying56 hi0 hz0 hz1 hz2 rfl (by omega) w b0_ l_ rfl w.heap.size fA f.1.length fc (bts f.1) rfl hrow (xy _) (by unfold maxLen;omega) (by omega) ?_);intro A2 c2 w2 hown2 hb2 _ _ _;go_wp2;go_ret2;exact⟨_,_,rfl,hown2,hb2⟩
theorem Upd.after {X:Dw} {w w1 w2:World} {S2:Sd} (h1:Chg [X.d] w w1) (h2:Upd X w1 w2 S2):Upd X w w2 S2:=by
 obtain⟨X',e,h,c,hf⟩:=h2;refine⟨X',e,h,(h1.mono (fun g hg=>.inl ?_)).trans c (fun g hg=>.inl hg),fun g hg=>?_⟩
 ·rw[c_.1 hg]
  exact aj.2 (.inl rfl)
 ·rcases hf g hg with h3|h3
  ·exact .inl h3
  ·exact .inr (h_ h1.size h3)
theorem Upd.called {X:Dw} {w w1:World} {S1:Sd} (h:DK w1 X S1) (h1:Chg [X.d] w w1):Upd X w w1 S1:=Upd.after h1 (Upd.same h (Chg.refl _ _))
theorem neq0 {n:Nat} (h:n≠0):(((n:Int) !=0))=true:=by simp[h]
theorem nv1 {X:Dw} {i:Nat} (hi:i < X.ps.length) {g:Nat} (hg:g∈gq X.ps[i]):g∈X.foot:=aj.2 (.inr (.inr (.inr (.inr (.inr ⟨_,v_ hi,hg⟩)))))
theorem fq3 {X:Dw} {i:Nat} (hi:i < X.ps.length) {v:Value} {n:Nat} (hv:∀g,v.ownBlock=some g→(X.ps[i]).2.ownBlock=some g∨n≤g):∀g∈({ X with ps:=X.ps.set i ((X.ps[i]).1,v) }:Dw).foot,g∈X.foot∨n≤g:=by
 intro g hg
 rcases aj.1 hg with h|h|h|h|h|⟨p,hp,hgp⟩
 ·exact .inl (aj.2 (.inl h))
 ·exact .inl (aj.2 (.inr (.inl h)))
 ·exact .inl (aj.2 (.inr (.inr (.inl h))))
 ·exact .inl (aj.2 (.inr (.inr (.inr (.inl h)))))
 ·exact .inl (aj.2 (.inr (.inr (.inr (.inr (.inl h))))))
 ·rcases List.mem_or_eq_of_mem_set hp with h1|h1
  ·exact .inl (aj.2 (.inr (.inr (.inr (.inr (.inr ⟨p,h1,hgp⟩))))))
  ·subst h1
   simp only[gq,g_,a0_]at hgp
   rcases hgp with h2|h2
   ·exact .inl (nv1 hi (by simp[gq,h2]))
   ·rcases hv g h2 with h3|h3
    ·exact .inl (nv1 hi (by simp[gq,h3]))
    ·exact .inr h3
theorem sync_any (X:Dw) (S:Sd) (s:ByteArray) (hs:s.size≤maxLen) (hw:S.Wf) (w:World) (h:DK w X S):
  Calls Tryz.prog 29 #[.pointer (some ⟨X.d,0,none⟩),.string s] w fun e w'=>e=.returned (.int .i64 ((S.sync s.data.toList).2:Int))∧Upd X w w' (S.sync s.data.toList).1:=by
 have hcall:=tz4 X S s hs hw w h;have hw1:=hw.call [s.data.toList];obtain⟨e1,e2,e3,e4,e5,_,_⟩:=Sd.jw S [s.data.toList];have hsy:S.sync s.data.toList=if (S.call [s.data.toList]).2≠0 then S.call [s.data.toList] else match S.names.get s.data.toList with
  |none=>((S.call [s.data.toList]).1,11)
  |some i=>({ (S.call [s.data.toList]).1 with files:=S.files.set i ((S.files.getD i ([],0)).1,S.size i) },0):=rfl
 generalize S.call [s.data.toList]=R at *;obtain⟨S1,er⟩:=R;simp only at *
 by_cases h0:er=0
 ·subst h0
  rw[if_neg (by simp)]at hsy;have hfd:=fun w1 h1=>find_any X S1 s hs w1 h1 hw1.names
  cases h3:S.names.get s.data.toList with
  |none=>
   simp only[h3]at hsy;rw[hsy];simp only[e1,h3]at hfd;clear hsy h3 e1 e2 e3 e4 e5 hw1 hw h;go_enter Tryz.func29,Tryz.ntmps29;go_wp2_with fail;refine hcall.mono ?_;rintro e w1 ⟨rfl,h1,hc1⟩;go_wp2_with fail;refine(hfd w1 h1).mono ?_;rintro e w2 ⟨rfl,rfl⟩;go_wp2;go_ret;exact⟨rfl,Upd.called h1 hc1⟩
  |some i=>
   simp only[h3]at hsy;rw[hsy];simp only[e1,h3]at hfd;have hi:i < S1.files.length:=by rw[e3];exact hw.names _ (Nm.get_mem h3)
   have hsz:S.size i=(S1.files[i]).1.length:=by simp[Sd.size,←e3,C_,hi]
   have hgd:(S.files.getD i ([],0)).1=(S1.files[i]).1:=by simp[←e3,C_,hi]
   have hlen:=(hw1.file i hi).2;obtain⟨f,hf⟩:=n_ (S1.files[i]);rw[←hf]at hsz hgd hlen;have HE:Hid (({ S1 with files:=S.files.set i ((S.files.getD i ([],0)).1,S.size i) }:Sd)={ S1 with files:=S1.files.set i (f.1,f.1.length) }):=by
    rw[hsz,hgd,←e3];exact rfl
   rw[HE.out];have HF:=H_ hf;clear hf hsy h3 e1 e2 e4 e5 e3 hsz hgd hw HE h;go_enter Tryz.func29,Tryz.ntmps29;go_wp2_with fail;refine hcall.mono ?_;rintro e w1 ⟨rfl,h1,hc1⟩;go_wp2_with fail;have hip:i < X.ps.length:=by rw[h1.flen];exact hi
   have hptr:X.ps.getD i (0,Go.undef)=X.ps[i]:=by simp[C_,hip]
   refine(hfd w1 h1).mono ?_;rintro e w2 ⟨rfl,rfl⟩;rw[hptr];have hfile:tw1 w1 X.ps[i] f:=by rw[show f=_ from HF.out];exact h1.file i hi hip
   have hself:=h1.apart.self _ (v_ hip);have hv:=fun g (e:(X.ps[i]).2.ownBlock=some g)=>(.inl e:(X.ps[i]).2.ownBlock=some g∨w1.heap.size≤g);have key:=fun(w2:World) (hf:tw1 w2 ((X.ps[i]).1,(X.ps[i]).2) (f.1,f.1.length)) (c:Chg (gq X.ps[i]) w1 w2)=>DK.bw2 h1 hip hf c hv;have hfo:=fq3 hip hv;have hffo:=fun g hg=>nv1 (X:=X) (i:=i) hip (g:=g) hg;generalize X.ps[i]=p at *;obtain⟨hfb,hfr⟩:=hfile;have hset:=hfb.store 1 (.int .i64 (f.1.length:Int));have hcs:=uw w1 ⟨p.1,1,none⟩ (.int .i64 (f.1.length:Int));have hrow:=jv hfr hcs (fun g e hg=>hself (by rw[e];simpa using hg));have hcm:Chg (gq p) w1 (w1.setCell ⟨p.1,1,none⟩ (.int .i64 (f.1.length:Int))):=hcs.mono (fun g hg=>.inl (by simpa [gq] using Or.inl hg));have hdk:=key _ ⟨hset,hrow⟩ hcm;have e0:=hfb.c0;have e1:=hfb.c1;have f1:=hfb.free 1;obtain⟨fA,fc,hfv2,_,_,_⟩:=dw hfr;have hup:Upd X w (w1.setCell ⟨p.1,1,none⟩ (.int .i64 (f.1.length:Int))) { S1 with files:=S1.files.set i (f.1,f.1.length) }:=Upd.after hc1 ⟨{ X with ps:=X.ps.set i (p.1,p.2) },rfl,hdk,hcm.mono (fun g hg=>.inl (hffo g hg)),hfo⟩;have HU:=H_ hup;rw[hfv2]at e0;clear hup hdk hcm hset hcs hrow key hfo hv hself hptr hfv2 hfr hfb hffo;unfold ptrV;go_wp2;go_ret;exact⟨rfl,HU.out⟩
 ·have hne:=neq0 h0
  rw[if_pos h0]at hsy;rw[hsy];clear hsy e1 e2 e3 e4 e5 h0;go_enter Tryz.func29,Tryz.ntmps29;go_wp2_with fail;refine hcall.mono ?_;rintro e w1 ⟨rfl,h1,hc1⟩;go_wp2;go_ret;exact⟨rfl,Upd.called h1 hc1⟩
end
section
open Go.RowKit
theorem lw1 {a:Nat} (h:a≠0) (b:Nat):orElse a b=a:=if_neg h
end
section
open Go Go.RowKit Go.Maps Go.Shelf
theorem DK.kj5 {w w':World} {X:Dw} {S S':Sd} (h:DK w X S) {b1 b2:Nat} (c:Chg [X.d] w w') (hb1:ax1 w' b1 S'.names.length S'.names) (hb2:ax1 w' b2 S'.lasted.length S'.lasted)
  (h1:b1=X.nb∨b1=X.lb∨w.heap.size≤b1) (h2:w.heap.size≤b2) (h12:b1≠b2) (hb:BoxO w' 99 X.d (({ X with nb:=b1,lb:=b2,tv:=.slice none 0 0 }:Dw).cells S')) (e3:S'.files=S.files) (e4:S'.turns=[]):
  DK w' { X with nb:=b1,lb:=b2,tv:=.slice none 0 0 } S':=by
 have a:=h.apart;have hl:=h.lt;obtain⟨q,fs,nm,la,tu,ca,de,st,fa⟩:=S';simp only at e3 e4;subst e3 e4;refine⟨hb,hb1,hb2,jv h.files c (fun g e=>by simpa using (a.fv g e).1),fun i hi h3=>(h.file i hi h3).chg c (fun g e=>by simpa using (a.ps _ (v_ h3) g e).1),?_,?_⟩
 ·simpa using E_ _ _ _ _
 ·have hnd:=h.nodup
  unfold Dw.foot at hnd ⊢;have hsub:(X.fv.ownBlock.toList++X.ps.flatMap gq).Nodup:=by
   refine List.Nodup.sublist ?_ hnd;refine bY_ ?_ (a7_ _ _);refine bY_ ?_ (a7_ _ _);refine bY_ ?_ (a7_ _ _);exact List.Sublist.append (List.Sublist.refl _) (a7_ _ _)
  have hmem:∀g∈X.fv.ownBlock.toList++X.ps.flatMap gq,g≠X.d∧g≠X.nb∧g≠X.lb∧g < w.heap.size:=fun g hg=>by
   rcases q_.1 hg with h3|h3
   ·have h4:X.fv.ownBlock=some g:=by simpa using h3
    exact⟨(a.fv g h4).1,(a.fv g h4).2.1,(a.fv g h4).2.2.1,hl g (aj.2 (.inr (.inr (.inr (.inl h4)))))⟩
   ·obtain⟨p,hp,hgp⟩:=O_.1 h3
    exact⟨(a.ps p hp g hgp).1,(a.ps p hp g hgp).2.1,(a.ps p hp g hgp).2.2.1,hl g (aj.2 (.inr (.inr (.inr (.inr (.inr ⟨p,hp,hgp⟩))))))⟩
  have hd:=h.box.lt;have hb1lt:b1≠X.d:=by
   rcases h1 with h1|h1|h1
   ·rw[h1];exact a.d_nb.symm
   ·rw[h1];exact a.d_lb.symm
   ·omega
  have hno:(Value.slice none 0 0).ownBlock.toList=[]:=rfl;simp only[hno,y_,List.singleton_append];refine a3_.2 ⟨fun hm=>?_,a3_.2 ⟨fun hm=>?_,a3_.2 ⟨fun hm=>?_,hsub⟩⟩⟩
  ·rcases g_.1 hm with h3|hm
   ·exact hb1lt h3.symm
   ·rcases g_.1 hm with h3|hm
    ·omega
    ·exact(hmem _ hm).1 rfl
  ·rcases g_.1 hm with h3|hm
   ·exact h12 h3
   ·obtain⟨m1,m2,m3,m4⟩:=hmem _ hm
    rcases h1 with h1|h1|h1
    ·exact m2 h1
    ·exact m3 h1
    ·omega
  ·have:=(hmem _ hm).2.2.2
   omega
theorem ax2 (X:Dw) (S:Sd) (hw:S.Wf) (w:World) (h:DK w X S):
  Calls Tryz.prog 30 #[.pointer (some ⟨X.d,0,none⟩)] w fun e w'=>e=.returned (.int .i64 ((S.ay).2:Int))∧Upd X w w' (S.ay).1:=by
 have hcall:=nw2 X S none 0 0 [] (by omega) (by simp) hw.stop hw.fail w h Row.nil_;have hte:texts []=[]:=rfl;rw[hte]at hcall;obtain⟨e1,e2,e3,e4,e5,_,_⟩:=Sd.jw S [];have hsy:S.ay=if (S.call []).2≠0 then S.call [] else ({ (S.call []).1 with lasted:=S.names,turns:=[] },0):=rfl
 generalize S.call []=R at *;obtain⟨S1,er⟩:=R;simp only at *
 by_cases h0:er=0
 ·subst h0
  rw[if_neg (by simp)]at hsy;rw[hsy,←e1];clear hsy e1 e2 e3 e4 e5 h hte;go_enter Tryz.func30,Tryz.ntmps30;go_wp2_with fail;refine hcall.mono ?_;rintro e w1 ⟨rfl,h1,hc1⟩;have d2:=h1.box.cell 2;simp only[Dw.cells,gE0,gE1]at d2;have hcl:=AnyW.maps_Clone_owns Tryz.clone64 9 (plainElem (H:=Unit) Tryz.prog 3) X.nb _ _ w1 h1.names;go_wp2_with fail;refine hcl.mono ?_;rintro e w2 ⟨rfl,hn2,hn1,hb2⟩;have h2:=h1.below hb2;have d3:=h2.box.cell 3;have d4:=h2.box.cell 4;have f3:=h2.box.free 3;have f4:=h2.box.free 4;simp only[Dw.cells,gE0,gE1]at d3 d4;have hbx:=(h2.box.store 3 (.map (some w1.heap.size))).store 4 (.slice none 0 0);have hcs:Chg [X.d] w1 ((w2.setCell ⟨X.d,3,none⟩ (.map (some w1.heap.size))).setCell ⟨X.d,4,none⟩ (.slice none 0 0)):=((Chg.of_below hb2 [X.d]).setCell _ (.inl (by simp))).setCell _ (.inl (by simp));have hcs2:Chg [X.d] w2 ((w2.setCell ⟨X.d,3,none⟩ (.map (some w1.heap.size))).setCell ⟨X.d,4,none⟩ (.slice none 0 0)):=((Chg.refl [X.d] w2).setCell _ (.inl (by simp))).setCell _ (.inl (by simp));have hlt:=h1.box.lt;have hnlt:=h1.names.lt;have hdk:=DK.kj5 (b1:=X.nb) (b2:=w1.heap.size) (S':={ S1 with lasted:=S1.names,turns:=[] }) h1 hcs (ay1 hn1 hcs2 (by simpa using h1.apart.d_nb.symm)) (ay1 hn2 hcs2 (by simp;omega)) (.inl rfl) l_ (by omega) hbx rfl rfl;have hup:Upd X w _ _:=Upd.after hc1 ⟨{ X with nb:=X.nb,lb:=w1.heap.size,tv:=.slice none 0 0 },rfl,hdk,hcs.mono (fun g hg=>.inl (by rw[c_.1 hg];exact aj.2 (.inl rfl))),fun g hg=>by
   rcases aj.1 hg with h5|h5|h5|h5|h5|h5
   ·exact .inl (aj.2 (.inl h5))
   ·exact .inl (aj.2 (.inr (.inl h5)))
   ·exact .inr (bk_ (show g=w1.heap.size from h5).symm)
   ·exact .inl (aj.2 (.inr (.inr (.inr (.inl h5)))))
   ·cases h5
   ·exact .inl (aj.2 (.inr (.inr (.inr (.inr (.inr h5))))))⟩
  have HU:=H_ hup;clear hup hdk hcs hcs2 hbx hn2 hn1 hb2 h2 h1 hcl hc1;go_wp2;go_ret;exact⟨rfl,HU.out⟩
 ·have hne:=neq0 h0
  rw[if_pos h0]at hsy;rw[hsy];clear hsy e1 e2 e3 e4 e5 h0 hte;go_enter Tryz.func30,Tryz.ntmps30;go_wp2_with fail;refine hcall.mono ?_;rintro e w1 ⟨rfl,h1,hc1⟩;go_wp2;go_ret;exact⟨rfl,Upd.called h1 hc1⟩
theorem ev2 {w:World} {b:Nat} (hb:w.heap[b]?=some (.map #[] 0)):ax1 w b 0 []:=by
 have h:=(World.ownsMap_made (H:=Unit) w Tryz.prog 9 (plainElem (H:=Unit) Tryz.prog 3));obtain⟨es,clock,h1,F,hs,hD⟩:=h;rw[heap_alloc_new]at h1;injection h1 with h1;injection h1 with h1 h2;subst h1 h2;exact⟨#[],0,hb,F,hs,hD⟩
theorem jv3 (q:Int) (w:World):Calls Tryz.prog 13 #[.int .i64 q] w fun e w'=>∃X:Dw,e=.returned (.pointer (some ⟨X.d,0,none⟩))∧DK w' X (Sd.new q)∧Below w.heap.size w w'∧∀g∈X.foot,w.heap.size≤g:=by
 have hmm:=@run_makeMap Tryz.prog;go_enter Tryz.func13,Tryz.ntmps13;go_wp2;generalize hob:(Obj.cells #[.int .i64 (max q 0),.slice none 0 0,.map (some w.heap.size),.map (some (w.heap.size+1)),.slice none 0 0,.int .i64 0,.bool false,.int .i64 0,.int .i64 0] 99)=ob;have hq0:((q.toNat:Nat):Int)=max q 0:=by omega
 have hs1:((w.alloc (.map #[] 0)).alloc (.map #[] 0)).heap.size=w.heap.size+2:=by simp
 have hn1:ax1 (((w.alloc (.map #[] 0)).alloc (.map #[] 0)).alloc ob) w.heap.size 0 []:=ev2 (by
  rw[Below.heap_alloc _ _ _ (by simp;omega),Below.heap_alloc _ _ _ (by simp)];exact(MapKept.heap_alloc w _).1)
 have hn2:ax1 (((w.alloc (.map #[] 0)).alloc (.map #[] 0)).alloc ob) (w.heap.size+1) 0 []:=ev2 (by
  rw[Below.heap_alloc _ _ _ (by simp)];have:=(MapKept.heap_alloc (w.alloc (.map #[] 0)) (.map #[] 0)).1;simpa using this)
 have hbx:BoxO (((w.alloc (.map #[] 0)).alloc (.map #[] 0)).alloc ob) 99 (w.heap.size+2) (({ d:=w.heap.size+2,nb:=w.heap.size,lb:=w.heap.size+1,fv:=.slice none 0 0,tv:=.slice none 0 0,ps:=[] }:Dw).cells (Sd.new q)):=by
  have h1:=BoxO.new ((w.alloc (.map #[] 0)).alloc (.map #[] 0)) #[.int .i64 (max q 0),.slice none 0 0,.map (some w.heap.size),.map (some (w.heap.size+1)),.slice none 0 0,.int .i64 0,.bool false,.int .i64 0,.int .i64 0] 99;rw[hob,hs1]at h1;unfold Dw.cells Sd.new;simp only[hq0];exact h1
 have hB:Below w.heap.size w (((w.alloc (.map #[] 0)).alloc (.map #[] 0)).alloc ob):=((b_ _ _).alloc (by simp) _).alloc (by simp;omega) _;have hft:∀g∈({ d:=w.heap.size+2,nb:=w.heap.size,lb:=w.heap.size+1,fv:=.slice none 0 0,tv:=.slice none 0 0,ps:=[] }:Dw).foot,w.heap.size≤g:=fun g hg=>by
  rcases aj.1 hg with h|h|h|h|h|⟨p,hp,_⟩
  ·simp only at h;omega
  ·simp only at h;omega
  ·simp only at h;omega
  ·simp[Value.ownBlock]at h
  ·simp[Value.ownBlock]at h
  ·cases hp
 have hdk:DK (((w.alloc (.map #[] 0)).alloc (.map #[] 0)).alloc ob) { d:=w.heap.size+2,nb:=w.heap.size,lb:=w.heap.size+1,fv:=.slice none 0 0,tv:=.slice none 0 0,ps:=[] } (Sd.new q):=
  ⟨hbx,hn1,hn2,E_ _ _ _ _,fun i hi=>(by simp[Sd.new]at hi),E_ _ _ _ _,by simp[Dw.foot,Value.ownBlock]⟩
 go_ret;exact⟨_,rfl,hdk,hB,hft⟩
end
section
open Go Go.RowKit Go.Maps
theorem xy1:(Tryz.prog.info? 118).map (fun i=>(i.zero,i.size,i.bytes))=some (some (.agg #[.int .i64 0,.int .i64 0,.string ⟨#[]⟩,.string ⟨#[]⟩]),4,48):=by kernel_rfl
theorem dw1 {w3 w4:World} {X:Dw} {S:Sd} {o:Obj} (h:DK w3 X S) (hg:((w3.alloc o).drew).grownBy w4 X.tv.ownBlock):BoxO w4 99 X.d (X.cells S):=
 ((h.box.alloc o).drew).chg (Chg.pz (F:=X.tv.ownBlock.toList) hg (fun b e=>by simp[e])) (fun hm=>(h.apart.tv _ (by simpa using hm)).1 rfl)
theorem qw2 {w3 w4:World} {X:Dw} {S:Sd} {o:Obj} (h:DK w3 X S) (t:Tn) {v:Value} (hg:((w3.alloc o).drew).grownBy w4 X.tv.ownBlock) (hown:w4.ownsRow 0 118 4 v (S.turns.length+1) (S.turns.flatMap zk++zk t))
  (hob:v.ownBlock=X.tv.ownBlock∨v.ownBlock=some ((w3.alloc o).drew).heap.size):DK (w4.setCell ⟨X.d,4,none⟩ v) { X with tv:=v } { S with turns:=S.turns++[t] }∧Chg X.foot w3 (w4.setCell ⟨X.d,4,none⟩ v)∧∀g∈({ X with tv:=v }:Dw).foot,g∈X.foot∨w3.heap.size≤g:=by
 have hbox:=dw1 h hg;have ha:=h.apart;have hsz:((w3.alloc o).drew).heap.size=w3.heap.size+1:=by simp
 have hvd:∀g,v.ownBlock=some g→g≠X.d:=fun g e e2=>by
  subst e2
  rcases hob with h1|h1
  ·exact(ha.tv X.d (by rw[←h1,e])).1 rfl
  ·rw[e]at h1
   injection h1 with h1;have:=h.box.lt;omega
 have hc1:Chg X.tv.ownBlock.toList w3 w4:=((Chg.refl _ w3).alloc o).drew.trans (Chg.pz (F:=X.tv.ownBlock.toList) hg (fun b e=>by simp[e])) (fun g hg=>.inl hg);have hc2:Chg ([X.d] ++X.tv.ownBlock.toList) w3 (w4.setCell ⟨X.d,4,none⟩ v):=(hc1.mono (fun g hg=>.inl (k_ _ hg))).setCell v (.inl (by simp));have hv:∀g,v.ownBlock=some g→X.tv.ownBlock=some g∨w3.heap.size≤g:=fun g e=>by
  rcases hob with h1|h1
  ·exact .inl (by rw[←h1,e])
  ·rw[e]at h1
   injection h1 with h1;exact .inr (by omega)
 have hdk:=DK.jw4 (w':=w4.setCell ⟨X.d,4,none⟩ v) (tv:=v) (ts:=S.turns++[t]) h (by
   have h1:=jv hown (uw w4 ⟨X.d,4,none⟩ v) (fun g e hg=>hvd g e (by simpa using hg));simpa using h1) hc2 hv (by
   have h1:=hbox.store 4 v;exact h1)
 refine⟨hdk,hc2.mono (fun g hg=>.inl ?_),fun g hg=>?_⟩
 ·rcases q_.1 hg with h1|h1
  ·rw[c_.1 h1];exact aj.2 (.inl rfl)
  ·exact aj.2 (.inr (.inr (.inr (.inr (.inl (by simpa using h1))))))
 ·rcases aj.1 hg with h1|h1|h1|h1|h1|h1
  ·exact .inl (aj.2 (.inl h1))
  ·exact .inl (aj.2 (.inr (.inl h1)))
  ·exact .inl (aj.2 (.inr (.inr (.inl h1))))
  ·exact .inl (aj.2 (.inr (.inr (.inr (.inl h1)))))
  ·rcases hv g h1 with h2|h2
   ·exact .inl (aj.2 (.inr (.inr (.inr (.inr (.inl h2))))))
   ·exact .inr h2
  ·exact .inl (aj.2 (.inr (.inr (.inr (.inr (.inr h1))))))
theorem jz3 {w3 w4:World} {X:Dw} {S:Sd} {o:Obj} (h:DK w3 X S) (t:Tn) {v:Value} (hg:((w3.alloc o).drew).grownBy w4 X.tv.ownBlock) (hown:w4.ownsRow 0 118 4 v (S.turns.length+1) (S.turns.flatMap zk++zk t))
  (hob:v.ownBlock=X.tv.ownBlock∨v.ownBlock=some ((w3.alloc o).drew).heap.size):Upd X w3 (w4.setCell ⟨X.d,4,none⟩ v) { S with turns:=S.turns++[t] }:=
 let ⟨h1,h2,h3⟩:=qw2 h t hg hown hob
 ⟨{ X with tv:=v },rfl,h1,h2,h3⟩
theorem Upd.trans {X:Dw} {w w1 w2:World} {S2:Sd} {X1:Dw} (e:X1.d=X.d) (c:Chg X.foot w w1) (hf:∀g∈X1.foot,g∈X.foot∨w.heap.size≤g) (h2:Upd X1 w1 w2 S2):Upd X w w2 S2:=by
 obtain⟨X',e',h,c',hf'⟩:=h2;refine⟨X',e'.trans e,h,c.trans c' (fun g hg=>hf g hg),fun g hg=>?_⟩
 rcases hf' g hg with h3|h3
 ·exact hf g h3
 ·exact .inr (h_ c.size h3)
theorem gx2 (X:Dw) (S:Sd) (s:ByteArray) (hs:s.size≤maxLen) (hw:S.Wf) (hl:S.load≤1099511627776) (w:World) (h:DK w X S):
  Calls Tryz.prog 26 #[.pointer (some ⟨X.d,0,none⟩),.string s] w fun e w'=>e=.returned (.int .i64 ((S.remove s.data.toList).2:Int))∧Upd X w w' (S.remove s.data.toList).1:=by
 have hcall:=tz4 X S s hs hw w h;have hw1:=hw.call [s.data.toList];have hld:=Sd.zy S [s.data.toList];obtain⟨e1,e2,e3,e4,e5,_,_⟩:=Sd.jw S [s.data.toList];have hsy:S.remove s.data.toList=if (S.call [s.data.toList]).2≠0 then S.call [s.data.toList] else if (S.names.get s.data.toList).isNone then ((S.call [s.data.toList]).1,11)
  else ({ (S.call [s.data.toList]).1 with names:=Tn.go ⟨3,0,s.data.toList,[]⟩ S.names,turns:=S.turns++[⟨3,0,s.data.toList,[]⟩] },0):=rfl
 generalize S.call [s.data.toList]=R at *;obtain⟨S1,er⟩:=R;simp only at *
 by_cases h0:er=0
 ·subst h0
  rw[if_neg (by simp)]at hsy;have hfd:=fun w1 h1=>find_any X S1 s hs w1 h1 hw1.names
  cases h3:S.names.get s.data.toList with
  |none=>
   simp only[h3,Option.isNone_none,if_true]at hsy;rw[hsy];simp only[e1,h3]at hfd;clear hsy h3 e1 e2 e3 e4 e5 hw1 hw h hld;go_enter Tryz.func26,Tryz.ntmps26;go_wp2_with fail;refine hcall.mono ?_;rintro e w1 ⟨rfl,h1,hc1⟩;go_wp2_with fail;refine(hfd w1 h1).mono ?_;rintro e w2 ⟨rfl,rfl⟩;go_wp2;go_ret;exact⟨rfl,Upd.called h1 hc1⟩
  |some i=>
   simp only[h3,bH_,ao_,if_false]at hsy;rw[hsy,←e1,←e4];simp only[e1,h3]at hfd;have hml:S1.turns.length+1≤1099511627777:=by unfold Sd.load at hld hl;omega
   clear hsy h3 e1 e2 e3 e4 e5 hw h hld;go_enter Tryz.func26,Tryz.ntmps26;go_wp2_with fail;refine hcall.mono ?_;rintro e w1 ⟨rfl,h1,hc1⟩;go_wp2_with fail;refine(hfd w1 h1).mono ?_;rintro e w2 ⟨rfl,rfl⟩;unfold ptrV;go_wp2;have hbV:Below w1.heap.size w1 (w1.alloc (.cells #[.int .i64 3,.int .i64 0,.string s,.string ⟨#[]⟩] 118)):=b_ _ _;have hbox:=BoxO.new w1 #[.int .i64 3,.int .i64 0,.string s,.string ⟨#[]⟩] 118;have hlt:w1.heap.size < (w1.alloc (.cells #[.int .i64 3,.int .i64 0,.string s,.string ⟨#[]⟩] 118)).heap.size:=by simp
   have h2:=h1.below hbV;have hup0:=Chg.of_below hbV X.foot;generalize w1.alloc (.cells #[.int .i64 3,.int .i64 0,.string s,.string ⟨#[]⟩] 118)=V at *;have c0:=hbox.cell 0;have c1:=hbox.cell 1;have c2:=hbox.cell 2;have c3:=hbox.cell 3;have d2:=h2.box.cell 2;simp only[Dw.cells,gE0,gE1]at c0 c1 c2 c3 d2;have htb:=h1.lt;have hnamed:=H_ h2.names;have hsm:S1.names.length < maxLen:=by have:=hw1.most;unfold maxLen;omega
   generalize w1.heap.size=tb at *
   go_still_tail 5,(by kernel_rfl)
   change wpList _ _ _ _ _ (World.drew V);go_wp2_with fail;have hdo:=vk4 3 0 s.data.toList [] (by simpa using hs) (by simp) (by omega) X.nb S1.names.length S1.names V.drew hnamed.out.drew hsm (by omega);simp only[ny3,bj1]at hdo;refine hdo.mono ?_;rintro e w3 ⟨rfl,hn3,hc3⟩;have hc3':Chg [X.nb] V w3:=(Chg.refl [X.nb] V).drew.trans hc3 (fun g hg=>.inl hg);have h3:=h2.lk1 hn3 hc3';have hbox3:=hbox.chg hc3' (by simp;have:=htb X.nb (aj.2 (.inr (.inl rfl)));omega);have c0:=hbox3.cell 0;have c1:=hbox3.cell 1;have c2:=hbox3.cell 2;have c3:=hbox3.cell 3;have d4:=h3.box.cell 4;have f4:=h3.box.free 4;have hxd:=h3.box.lt;obtain⟨tA,tc,htv,_,_,_⟩:=dw h3.turns;simp only[Dw.cells,gE0,gE1]at c0 c1 c2 c3 d4;rw[htv]at d4;clear d2 hnamed hdo hn3;have hrow4:=own_base h3.turns z_;rw[htv]at hrow4;have hpre:=fun(o:Obj) (w4:World) (hg:((w3.alloc o).drew).grownBy w4 (Value.slice tA S1.turns.length tc).ownBlock)=>(⟨(dw1 h3 (by rw[htv];exact hg)).cell 4,(dw1 h3 (by rw[htv];exact hg)).free 4⟩:w4.cell? ⟨X.d,4,none⟩=_∧w4.frozen? ⟨X.d,4,none⟩=false);have hpost:=fun(o:Obj) (w4:World) (v:Value) (hg:((w3.alloc o).drew).grownBy w4 (Value.slice tA S1.turns.length tc).ownBlock) hown hob=>jz3 (o:=o) (w4:=w4) (v:=v) h3 ⟨3,0,s.data.toList,[]⟩ (by rw[htv];exact hg) hown (by rw[htv];exact hob);simp only[zk,bj1]at hpost;have HPO:=H_ hpost;have HPR:=H_ hpre;have htr:=fun(w5:World) (S5:Sd) (h:Upd X w3 w5 S5)=>Upd.after hc1 (Upd.trans rfl (hup0.trans (hc3'.mono (fun g hg=>.inl (by rw[c_.1 hg];exact aj.2 (.inr (.inl rfl))):∀g∈[X.nb],g∈X.foot∨_)) (fun g hg=>.inl hg)) (fun g hg=>.inl hg) h);have HTR:=H_ htr;clear hpost hpre htr;obtain⟨i0,hi0,hz0,hz1,hz2⟩:=info_parts xy1;go_wp2
   go_region_law (refine zj1 rfl (.tmp 30) (.tmp 32) _ rfl 0 118 i0 _ 4 48 Tryz.underlying92 hi0 hz0 hz1 hz2 rfl (by omega) z_ (.slice tA S1.turns.length tc) S1.turns.length _ rfl (hrow4.alloc _).drew _ (some ⟨w3.heap.size,0,none⟩) 1 1 (by omega) [.int .i64 3,.int .i64 0,.string s,.string ⟨#[]⟩] rfl (Row.new w3 #[.int .i64 3,.int .i64 0,.string s,.string ⟨#[]⟩] 118 (n:=1) (size:=4) rfl).drew (by simp[Value.oneCell']) (S1.turns.length+1) _ rfl rfl (by unfold maxLen;omega) (by omega) ?_;intro A4 c4 w4 hown4 hg4 _ _ hob4;obtain⟨q4,q5⟩:=HPR.out _ _ hg4;have HO:=H_ (HTR.out _ _ (HPO.out _ _ _ hg4 hown4 hob4));clear hg4 hown4 hob4;simp only[Dw.cells,gE0,gE1]at q4)
   all_goals
    go_wp2;go_ret;exact⟨rfl,HO.out⟩
 ·have hne:=neq0 h0
  rw[if_pos h0]at hsy;rw[hsy];clear hsy e1 e2 e3 e4 e5 h0 hld;go_enter Tryz.func26,Tryz.ntmps26;go_wp2_with fail;refine hcall.mono ?_;rintro e w1 ⟨rfl,h1,hc1⟩;go_wp2;go_ret;exact⟨rfl,Upd.called h1 hc1⟩
end
section
open Go Go.RowKit Go.Maps Go.Sort Go.Shelf
theorem nw4 (m:Nat):AnyZ.SortsIn Tryz.prog Tryz.sorted71_ren Fence.wide m:=
 ⟨fun blk off cap ss W hH hblk hsz=>callsIn_wide.2 (AnyM.slices_Sort_string Tryz.sort145 blk off cap ss W hH hblk hsz),
  fun p cap W=>callsIn_wide.2 (AnyM.slices_Sort_string_none Tryz.sort145 p cap W)⟩
theorem vz3 (mb:Option Nat) (W:World):CallsIn Fence.wide 5 Tryz.prog 72 #[.map mb] W fun e w'=>e=.returned (.func (.func 146) #[] #[.pointer (some ⟨W.heap.size,0,none⟩)])∧w'=W.alloc (.cells #[.map mb] 90):=
 AnyZ.keys_in Tryz.keys72 Fence.wide 5 trivial rfl mb W
theorem yx2 {H:Type} (b nn:Nat) (D0:DataW H) (R:Value→Option (DataW H×List MemPlace)) (w:World) (hown:w.ownsMap Tryz.prog 9 R b nn D0) (hmax:Maps.size D0≤maxLen) (hbytes:Maps.size D0 *16≤140737488355328):
  CallsIn Fence.wide 5 Tryz.prog 71 #[.func (.func 146) #[] #[.pointer (some ⟨w.heap.size,0,none⟩)]] (w.alloc (.cells #[.map (some b)] 90)) fun e w'=>∃(v:Value) (ss:List (List UInt8)),e=.returned v∧ss.Perm (strKeys D0)∧
   w'.ownsRow (w.alloc (.cells #[.map (some b)] 90)).heap.size 9 1 v ss.length ((ss.mergeSort (fun x y=>decide (x≤y))).map encStr)∧(v=.slice none 0 0↔ss=[])∧Below (w.alloc (.cells #[.map (some b)] 90)).heap.size (w.alloc (.cells #[.map (some b)] 90)) w':=by
 have hbl:=hown.lt;have hseq:SeqGives Fence.wide 2 Tryz.prog 146 #[.pointer (some ⟨w.heap.size,0,none⟩)] encStr (fun ss=>ss.Perm (strKeys D0)) (Maps.size D0) (w.alloc (.cells #[.map (some b)] 90)):=
  AnyZ.keys_gives (ρ:=Tryz.keys72_ren) { Tryz.keys72 with } Fence.wide _ trivial rfl (by omega) w.heap.size b nn D0 _ (by simp) (by simp) (by
   obtain⟨es,clock,hb,Ft,hs,hD⟩:=hown;exact⟨es,clock,(Below.heap_alloc _ _ b hbl).trans hb,Ft,hs,hD⟩)
 exact AnyZ.sorted_in Tryz.sorted71 Fence.wide 5 trivial trivial trivial trivial rfl (by omega) (nw4 _) (enters_of Tryz.func145 (by kernel_rfl) rfl) 146 #[.pointer (some ⟨w.heap.size,0,none⟩)] trivial (enters_of Tryz.func146 (by kernel_rfl) rfl) _ _ hmax hbytes _ hseq
theorem ck3 (m:Nm):strKeys (Nm.enc m)=m.map (·.1):=by simp[Nm.enc,strKeys,Nm.lit1,strOf]
theorem xz2 (X:Dw) (S:Sd) (hw:S.Wf) (w:World) (h:DK w X S):Calls Tryz.prog 24 #[.pointer (some ⟨X.d,0,none⟩)] w fun e w'=>
  ∃A c,e=.returned (.slice A S.list.length c)∧w'.ownsRow w.heap.size 9 1 (.slice A S.list.length c) S.list.length (S.list.map encStr)∧Below w.heap.size w w':=by
 have d6:=h.box.cell 6;have d2:=h.box.cell 2;simp only[Dw.cells,gE0,gE1]at d2 d6;have hdd:=pz2 X.d S.dead w d6
 cases hd:S.dead with
 |true=>
  have hli:S.list=[]:=by simp[Sd.list,hd]
  rw[hli];rw[hd]at hdd;clear hd hli d6 d2;go_enter Tryz.func24,Tryz.ntmps24;go_wp2_with fail;refine hdd.mono ?_;rintro e w1 ⟨rfl,rfl⟩;go_wp2;go_ret;exact⟨_,_,rfl,E_ _ _ _ _,Below.refl _ _⟩
 |false=>
  have hli:S.list=(S.names.map (·.1)).mergeSort fun x y=>decide (x≤y):=by simp[Sd.list,hd]
  have hn:=h.names;have hsz:=Nm.vy1 S.names;have hm:=hw.most;rw[hd]at hdd;have HL:=H_ hli;obtain⟨L,hL⟩:=n_ S.list;rw[←hL];have HLL:=H_ hL;clear hd hli d6 hL;have hcall:=fun w0 (hn0:ax1 w0 X.nb S.names.length S.names)=>yx2 X.nb _ _ _ w0 hn0 (by rw[hsz];unfold maxLen;omega) (by rw[hsz];omega);clear hsz;have HC:=H_ hcall;clear hcall;refine(callsIn_wide (n:=6)).1 ?_;have hfK:Fence.wide.fn 72:=trivial;have hfS:Fence.wide.fn 71:=trivial;have hfD:Fence.wide.fn 40:=trivial;refine callsIn_of_wp Tryz.func24 rfl trivial ?_ rfl;simp only[Tryz.ntmps24,aj_,r_,R_,Nat.reduceAdd,Nat.reduceSub,aL_,aM_,aZ_,aQ_,y_,N_]
  gi_wp2_with (first
   |(gi_at_call 40;refine(callsIn_wide.2 hdd).mono ?_;rintro e w' ⟨rfl,rfl⟩)
   |(gi_at_call 72;refine(vz3 _ _).mono ?_;rintro e w' ⟨rfl,rfl⟩)
   |(gi_at_call 71;refine(HC.out _ hn).mono ?_;rintro e w' ⟨v,ss,rfl,hS,hrow,hnil,hb⟩))
  have e1:L=ss.mergeSort (fun x y=>decide (x≤y)):=by
   rw[ck3]at hS;rw[show L=_ from HLL.out,show S.list=_ from HL.out];exact(mergeSort_of_perm hS).symm
  have e2:ss.length=L.length:=by rw[e1,List.length_mergeSort]
  rw[←e1,e2]at hrow;obtain⟨A,c,rfl,_⟩:=dw hrow;go_ret;exact⟨_,_,rfl,own_base hrow (by simp),((Below.refl _ w).alloc l_ _).trans (hb.mono (by simp))⟩
end
section
open Go Go.RowKit Go.Maps
theorem mv3:(Tryz.prog.info? 114).map (fun i=>(i.zero,i.size,i.bytes))=some (some (.pointer none),1,8):=by kernel_rfl
theorem cj4 (S:Sd) (s:List UInt8):S.create s=if (S.call [s]).2≠0 then S.call [s] else if (S.names.get s).isSome then ((S.call [s]).1,12) else if 64≤S.names.length then ((S.call [s]).1,65)
  else ({ (S.call [s]).1 with names:=S.names.put s S.files.length,turns:=S.turns++[⟨1,S.files.length,s,[]⟩],files:=S.files++[([],0)] },0):=rfl
def ew1 (w:World):World:=(w.alloc (.cells #[.slice none 0 0,.int .i64 0] 116)).alloc (.cells #[.pointer (some ⟨w.heap.size,0,none⟩)] 114)
theorem qj2 (w:World):(ew1 w).heap.size=w.heap.size+2:=by simp[ew1]
theorem iw1 (w:World):Below w.heap.size w (ew1 w):=(b_ _ _).alloc (by simp) _
theorem gy1 {w w4:World} {X:Dw} {S:Sd} (h:DK w X S) (hg:(ew1 w).grownBy w4 X.fv.ownBlock):BoxO w4 99 X.d (X.cells S):=
 (h.box.below (iw1 w)).chg (Chg.pz (F:=X.fv.ownBlock.toList) hg (fun b e=>by simp[e])) (fun hm=>(h.apart.fv _ (by simpa using hm)).1 rfl)
theorem sk4 {w w4:World} {X:Dw} {S:Sd} (h:DK w X S) {v:Value} (hg:(ew1 w).grownBy w4 X.fv.ownBlock) (hown:w4.ownsRow 0 114 1 v (S.files.length+1) (X.ps.map ptrV++[.pointer (some ⟨w.heap.size,0,none⟩)]))
  (hob:v.ownBlock=X.fv.ownBlock∨v.ownBlock=some (ew1 w).heap.size):Upd X w (w4.setCell ⟨X.d,1,none⟩ v) { S with files:=S.files++[([],0)] }:=by
 have hbox:=gy1 h hg;have ha:=h.apart;have hsz:=qj2 w;have hlt:=h.lt;have hvd:∀g,v.ownBlock=some g→g≠X.d∧g≠w.heap.size:=fun g e=>by
  rcases hob with h1|h1
  ·have h2:=(ha.fv g (by rw[←h1,e])).1
   have h3:=hlt g (aj.2 (.inr (.inr (.inr (.inl (by rw[←h1,e]))))));exact⟨h2,by omega⟩
  ·rw[e]at h1
   injection h1 with h1;have:=h.box.lt;exact⟨by omega,by omega⟩
 have hc1:Chg X.fv.ownBlock.toList w w4:=(Chg.of_below (iw1 w) _).trans (Chg.pz (F:=X.fv.ownBlock.toList) hg (fun b e=>by simp[e])) (fun g hg=>.inl hg);have hc2:Chg ([X.d] ++X.fv.ownBlock.toList) w (w4.setCell ⟨X.d,1,none⟩ v):=(hc1.mono (fun g hg=>.inl (k_ _ hg))).setCell v (.inl (by simp));have hv:∀g,v.ownBlock=some g→X.fv.ownBlock=some g∨w.heap.size≤g:=fun g e=>by
  rcases hob with h1|h1
  ·exact .inl (by rw[←h1,e])
  ·rw[e]at h1
   injection h1 with h1;exact .inr (by omega)
 have hfb0:BoxO (w.alloc (.cells #[.slice none 0 0,.int .i64 0] 116)) 116 w.heap.size [.slice none 0 0,.int .i64 0]:=BoxO.new _ _ _;have hfb1:BoxO (ew1 w) 116 w.heap.size [.slice none 0 0,.int .i64 0]:=hfb0.alloc _;have hfb:BoxO w4 116 w.heap.size [.slice none 0 0,.int .i64 0]:=hfb1.chg (Chg.pz (F:=X.fv.ownBlock.toList) hg (fun b e=>by simp[e])) (fun hm=>by
  have:=hlt w.heap.size (aj.2 (.inr (.inr (.inr (.inl (by simpa using hm))))));omega)
 have hdk:=DK.ak5 (w':=w4.setCell ⟨X.d,1,none⟩ v) (fv:=v) (b:=w.heap.size) h (by
   have h1:=jv hown (uw w4 ⟨X.d,1,none⟩ v) (fun g e hg=>(hvd g e).1 (by simpa using hg));simpa [ptrV] using h1) l_ (fun e=>(hvd _ e).2 rfl) (hfb.chg (uw w4 ⟨X.d,1,none⟩ v) (fun hm=>by
    have:=h.box.lt;simp at hm;omega)) hc2 hv (by
   have h1:=hbox.store 1 v;exact h1)
 refine⟨{ X with fv:=v,ps:=X.ps++[(w.heap.size,Value.slice none 0 0)] },rfl,hdk,hc2.mono (fun g hg=>.inl ?_),fun g hg=>?_⟩
 ·rcases q_.1 hg with h1|h1
  ·rw[c_.1 h1];exact aj.2 (.inl rfl)
  ·exact aj.2 (.inr (.inr (.inr (.inl (by simpa using h1)))))
 ·rcases aj.1 hg with h1|h1|h1|h1|h1|⟨p,hp,hgp⟩
  ·exact .inl (aj.2 (.inl h1))
  ·exact .inl (aj.2 (.inr (.inl h1)))
  ·exact .inl (aj.2 (.inr (.inr (.inl h1))))
  ·rcases hv g h1 with h2|h2
   ·exact .inl (aj.2 (.inr (.inr (.inr (.inl h2)))))
   ·exact .inr h2
  ·exact .inl (aj.2 (.inr (.inr (.inr (.inr (.inl h1))))))
  ·rcases q_.1 hp with hp|hp
   ·exact .inl (aj.2 (.inr (.inr (.inr (.inr (.inr ⟨p,hp,hgp⟩))))))
   ·rw[c_.1 hp]at hgp
    simp[gq,Value.ownBlock]at hgp;exact .inr (by omega)
theorem dw2 (X:Dw) (S:Sd) (s:ByteArray) (hs:s.size≤maxLen) (hw:S.Wf) (hl:S.load≤1099511627776) (w:World) (h:DK w X S):
  Calls Tryz.prog 27 #[.pointer (some ⟨X.d,0,none⟩),.string s] w fun e w'=>e=.returned (.int .i64 ((S.create s.data.toList).2:Int))∧Upd X w w' (S.create s.data.toList).1:=by
 have hcall:=tz4 X S s hs hw w h;have hw1:=hw.call [s.data.toList];have hld:=Sd.zy S [s.data.toList];obtain⟨e1,e2,e3,e4,e5,_,_⟩:=Sd.jw S [s.data.toList];have hsy:=cj4 S s.data.toList;generalize S.call [s.data.toList]=R at *;obtain⟨S1,er⟩:=R;simp only at *
 by_cases h0:er=0
 ·subst h0
  rw[if_neg (by simp)]at hsy;have hfd:=fun w1 h1=>find_any X S1 s hs w1 h1 hw1.names
  cases h3:S.names.get s.data.toList with
  |some i=>
   simp only[h3,Option.isSome_some,if_true]at hsy;rw[hsy];simp only[e1,h3]at hfd;clear hsy h3 e1 e2 e3 e4 e5 hw1 hw h hld;go_enter Tryz.func27,Tryz.ntmps27;go_wp2_with fail;refine hcall.mono ?_;rintro e w1 ⟨rfl,h1,hc1⟩;go_wp2_with fail;refine(hfd w1 h1).mono ?_;rintro e w2 ⟨rfl,rfl⟩;unfold ptrV;go_wp2;go_ret;exact⟨rfl,Upd.called h1 hc1⟩
  |none=>
   simp only[h3,Option.isSome_none,ao_,if_false]at hsy;simp only[e1,h3]at hfd
   by_cases hm:64≤S.names.length
   ·rw[if_pos hm]at hsy
    rw[hsy];have hm1:(64:Int)≤(S1.names.length:Int):=by rw[e1];omega
    clear hsy h3 e1 e2 e3 e4 e5 hw h hld hm;go_enter Tryz.func27,Tryz.ntmps27;go_wp2_with fail;refine hcall.mono ?_;rintro e w1 ⟨rfl,h1,hc1⟩;go_wp2_with fail;refine(hfd w1 h1).mono ?_;rintro e w2 ⟨rfl,rfl⟩;have d2:=h1.box.cell 2;have hn:=H_ h1.names;have hsz:=Nm.vy1 S1.names;simp only[Dw.cells,gE0,gE1]at d2;go_wp2_with (at_len;refine wpList_len_own _ rfl _ 90 rfl 9 3 Tryz.underlying90 _ X.nb _ _ rfl hn.out ?_;rw[hsz]);go_wp2;go_ret;exact⟨rfl,Upd.called h1 hc1⟩
   ·rw[if_neg hm]at hsy
    have hm1:(S1.names.length:Int) < 64:=by rw[e1];omega
    have hm2:S1.names.length < maxLen:=by unfold maxLen;omega
    rw[hsy,←e1,←e4,←e3];have hml:S1.turns.length+1≤1099511627777∧S1.files.length+1≤1099511627777:=by unfold Sd.load at hld hl;omega
    obtain⟨hml,hmf⟩:=hml;clear hsy h3 e1 e2 e3 e4 e5 hw h hld hm;have hkey:=tk4 hs;have HP:=H_ (Nm.cj3 S1.names s.data.toList S1.files.length);have hwf:(Lit.int .i64 (S1.files.length:Int)).wf=true:=WalkArith.wf_i64 (by omega);go_enter Tryz.func27,Tryz.ntmps27;go_wp2_with fail;refine hcall.mono ?_;rintro e w1 ⟨rfl,h1,hc1⟩;go_wp2_with fail;refine(hfd w1 h1).mono ?_;rintro e w2 ⟨rfl,rfl⟩;have d2:=h1.box.cell 2;have d1:=h1.box.cell 1;have hn:=H_ h1.names;have hsz:=Nm.vy1 S1.names;obtain⟨fA,fc,hfv,_,_,_⟩:=dw h1.files;simp only[Dw.cells,gE0,gE1]at d2 d1;rw[hfv]at d1;go_wp2_with (at_len;refine wpList_len_own _ rfl _ 90 rfl 9 3 Tryz.underlying90 _ X.nb _ _ rfl hn.out ?_;rw[hsz]);go_wp2
    go_still_tail 10,(by kernel_rfl)
    change wpList _ _ _ _ _ (World.drew w1);go_wp2_with (at_mapUpdate;refine wpList_mapUpdate_own _ rfl _ _ _ 90 rfl 9 3 vq1 Tryz.underlying90 _ X.nb _ _ rfl hn.out.drew hm2 _ _ _ rfl rfl hkey _ [] (plainElem_int Tryz.underlying3 hwf) ?_;intro w3 hown3 hgrow3);rw[HP.out]at hown3;have hc3:Chg [X.nb] w1 w3:=(Chg.refl [X.nb] w1).drew.trans (Chg.pz (F:=[X.nb]) hgrow3 (fun b hb=>by cases hb;simp)) (fun g hg=>.inl hg);have h3:=h1.lk1 hown3 hc3;clear hown3 hgrow3 HP hn d2 d1 hsz;have d4:=h3.box.cell 4;have d1:=h3.box.cell 1;have hxd:=h3.box.lt;obtain⟨tA,tc,htv,_,_,_⟩:=dw h3.turns;simp only[Dw.cells,gE0,gE1]at d4 d1;rw[htv]at d4;rw[hfv]at d1;have hrow4:=own_base h3.turns z_;rw[htv]at hrow4;have hpre:=fun(o:Obj) (w4:World) (hg:((w3.alloc o).drew).grownBy w4 (Value.slice tA S1.turns.length tc).ownBlock)=>(⟨(dw1 h3 (by rw[htv];exact hg)).cell 4,(dw1 h3 (by rw[htv];exact hg)).free 4⟩:w4.cell? ⟨X.d,4,none⟩=_∧w4.frozen? ⟨X.d,4,none⟩=false);have hpost:=fun(o:Obj) (w4:World) (v:Value) (hg:((w3.alloc o).drew).grownBy w4 (Value.slice tA S1.turns.length tc).ownBlock) hown hob=>qw2 (o:=o) (w4:=w4) (v:=v) h3 ⟨1,S1.files.length,s.data.toList,[]⟩ (by rw[htv];exact hg) hown (by rw[htv];exact hob);simp only[zk,bj1]at hpost;have HPO:=H_ hpost;have HPR:=H_ hpre;obtain⟨i0,hi0,hz0,hz1,hz2⟩:=info_parts xy1;clear hpost hpre h1 htv;go_wp2
    go_region_law (refine zj1 rfl (.tmp 39) (.tmp 47) _ rfl 0 118 i0 _ 4 48 Tryz.underlying92 hi0 hz0 hz1 hz2 rfl (by omega) z_ (.slice tA S1.turns.length tc) S1.turns.length _ rfl (hrow4.alloc _).drew _ (some ⟨w3.heap.size,0,none⟩) 1 1 (by omega) [.int .i64 1,.int .i64 (S1.files.length:Int),.string s,.string ⟨#[]⟩] rfl (Row.new w3 #[.int .i64 1,.int .i64 (S1.files.length:Int),.string s,.string ⟨#[]⟩] 118 (n:=1) (size:=4) rfl).drew (by simp[Value.oneCell']) (S1.turns.length+1) _ rfl rfl (by unfold maxLen;omega) (by omega) ?_;intro A4 c4 w4 hown4 hg4 _ _ hob4;obtain⟨q4,q5⟩:=HPR.out _ _ hg4;have HO:=H_ (HPO.out _ _ _ hg4 hown4 hob4);clear hg4 hown4 hob4;simp only[Dw.cells,gE0,gE1]at q4)
    all_goals
     obtain⟨h5,hc5,hf5⟩:=HO.out;clear HO HPO HPR hrow4 d4 d1 q4 q5 h3 hxd;generalize w4.setCell ⟨X.d,4,none⟩ (.slice A4 (S1.turns.length+1) c4)=w5 at *;have d1:=h5.box.cell 1;simp only[Dw.cells,gE0,gE1]at d1;rw[hfv]at d1;have hrow:=h5.files;have hpre:=fun(w6:World) (hg:(ew1 w5).grownBy w6 (Value.slice fA S1.files.length fc).ownBlock)=>(⟨(gy1 h5 (by simp only[hfv];exact hg)).cell 1,(gy1 h5 (by simp only[hfv];exact hg)).free 1⟩:w6.cell? ⟨X.d,1,none⟩=_∧w6.frozen? ⟨X.d,1,none⟩=false);have hpost:=fun(w6:World) (v:Value) (hg:(ew1 w5).grownBy w6 (Value.slice fA S1.files.length fc).ownBlock) hown hob=>sk4 (w4:=w6) (v:=v) h5 (by simp only[hfv];exact hg) hown (by simp only[hfv];exact hob);simp only[hfv]at hrow;have HPO:=H_ hpost;have HPR:=H_ hpre;have HRW:=H_ hrow;clear hpost hpre hrow hfv;obtain⟨j0,hj0,hy0,hy1,hy2⟩:=info_parts mv3;have HTR:∀w7 S7,Upd { X with tv:=.slice A4 (S1.turns.length+1) c4 } w5 w7 S7→Upd X w w7 S7:=fun w7 S7 hu=>
      Upd.after hc1 (Upd.trans (X1:={ X with tv:=.slice A4 (S1.turns.length+1) c4 }) rfl ((hc3.mono (fun g hg=>.inl (by rw[c_.1 hg];exact aj.2 (.inr (.inl rfl))))).trans hc5 (fun g hg=>.inl hg)) (fun g hg=>by
       rcases hf5 g hg with h1|h1
       ·exact .inl h1
       ·exact .inr (h_ hc3.size h1)) hu)
     have HT:=H_ HTR;clear HTR hc1 hc3 hc5 hf5;go_wp2_with (at_builtin;refine iy ?_);refine gz (aw1 rfl (.tmp 55) (.tmp 58) _ rfl 0 114 j0 _ 1 8 Tryz.underlying91 hj0 hy0 hy1 hy2 rfl (by omega) (ew1 w5) b0_ z_ (.slice fA S1.files.length fc) S1.files.length _ rfl (own_below HRW.out (iw1 w5)) (w5.heap.size+2) (some ⟨w5.heap.size+1,0,none⟩) 1 1 (by omega) [.pointer (some ⟨w5.heap.size,0,none⟩)] (by simp[Act.eval]) ?rw (by simp[Value.oneCell']) (S1.files.length+1) _ rfl rfl (by unfold maxLen;omega) (by omega) ?_)
     case rw=>
      have h9:=Row.new (w5.alloc (.cells #[.slice none 0 0,.int .i64 0] 116)) #[.pointer (some ⟨w5.heap.size,0,none⟩)] 114 (n:=1) (size:=1) rfl;simpa using h9
     intro A6 c6 w6 hown6 _ hg6 _ _ hob6;obtain⟨q4,q5⟩:=HPR.out _ hg6;have HO:=H_ (HT.out _ _ (HPO.out _ _ hg6 hown6 hob6));simp only[Dw.cells,gE0,gE1]at q4;clear hg6 hown6 hob6 HT HPO HPR HRW;go_wp2;go_ret;exact⟨rfl,HO.out⟩
 ·have hne:=neq0 h0
  rw[if_pos h0]at hsy;rw[hsy];clear hsy e1 e2 e3 e4 e5 h0 hld;go_enter Tryz.func27,Tryz.ntmps27;go_wp2_with fail;refine hcall.mono ?_;rintro e w1 ⟨rfl,h1,hc1⟩;go_wp2;go_ret;exact⟨rfl,Upd.called h1 hc1⟩
end
section
open Go Go.RowKit Go.Maps
theorem append_eq (S:Sd) (s b:List UInt8):S.append s b=if (S.call [s]).2≠0 then S.call [s] else match S.names.get s with
  |none=>((S.call [s]).1,11)
  |some i=>if 250000 < b.length∨250000 < S.size i+b.length then ((S.call [s]).1,2) else if S.quota < S.used+b.length then ((S.call [s]).1,15)
   else ({ (S.call [s]).1 with files:=S.files.set i ((S.files.getD i ([],0)).1++b,(S.files.getD i ([],0)).2) },0):=rfl
theorem Row.mv2 {w w':World} {B n size:Nat} {A:Option Addr} {xs:List Value} {G:List Nat} (r:Row B w A n size xs) (h:Chg G w w') (hB:B≤w.heap.size) (hF:∀a,A=some a→a.block∉G):Row w'.heap.size w' A n size xs:=
 (h.row r hB hF).up (h_ hB h.size)
theorem DK.drew {w:World} {X:Dw} {S:Sd} (h:DK w X S):DK w.drew X S:=h.chg ((Chg.refl [] w).drew) (fun g hg=>by cases hg)
theorem xv4 {w w4:World} {X:Dw} {S:Sd} (h:DK w X S) {i:Nat} (hi:i < S.files.length) (hip:i < X.ps.length) {b:List UInt8} {v:Value} (hg:w.grownBy w4 (X.ps[i]).2.ownBlock)
  (hown:w4.ownsRow 0 5 1 v ((S.files[i]).1.length+b.length) (bts (S.files[i]).1++bts b)) (hob:v.ownBlock=(X.ps[i]).2.ownBlock∨v.ownBlock=some w.heap.size):
  (w4.cell? ⟨(X.ps[i]).1,0,none⟩=some (X.ps[i]).2∧w4.frozen? ⟨(X.ps[i]).1,0,none⟩=false)∧Upd X w (w4.setCell ⟨(X.ps[i]).1,0,none⟩ v) { S with files:=S.files.set i ((S.files[i]).1++b,(S.files[i]).2) }:=by
 have hfile:=h.file i hi hip;have hself:=h.apart.self _ (v_ hip);have hv:∀g,v.ownBlock=some g→(X.ps[i]).2.ownBlock=some g∨w.heap.size≤g:=fun g e=>by
  rcases hob with h1|h1
  ·exact .inl (by rw[←h1,e])
  ·rw[e]at h1
   injection h1 with h1;exact .inr (by omega)
 have key:=fun(w2:World) (hf:tw1 w2 ((X.ps[i]).1,v) ((S.files[i]).1++b,(S.files[i]).2)) (c:Chg (gq X.ps[i]) w w2)=>DK.bw2 h hip hf c hv;have hfo:=fq3 hip hv;have hffo:=fun g hg=>nv1 (X:=X) (i:=i) hip (g:=g) hg;generalize S.files[i]=f at *;generalize X.ps[i]=p at *;obtain⟨hfb,hfr⟩:=hfile;have hc1:Chg p.2.ownBlock.toList w w4:=Chg.pz hg (fun b e=>by simp[e]);have hfb4:=hfb.chg hc1 (fun hm=>hself (by simpa using hm));have hset:=hfb4.store 0 v;have hcs:=uw w4 ⟨p.1,0,none⟩ v;have hvp:∀g,v.ownBlock=some g→g≠p.1:=fun g e e2=>by
  subst e2
  rcases hv _ e with h1|h1
  ·exact hself h1
  ·have:=hfb.lt
   omega
 have hrow:=jv hown hcs (fun g e hg=>hvp g e (by simpa using hg));have hcm:Chg (gq p) w (w4.setCell ⟨p.1,0,none⟩ v):=(hc1.mono (G:=gq p) (fun g hg=>.inl (by simp only[gq,g_];exact .inr hg))).setCell v (.inl (by simp[gq]));have hdk:=key _ ⟨hset,by simpa [tq1] using hrow⟩ hcm;have e0:=hfb4.c0;exact⟨⟨e0,hfb4.free 0⟩,⟨{ X with ps:=X.ps.set i (p.1,v) },rfl,hdk,hcm.mono (fun g hg=>.inl (hffo g hg)),hfo⟩⟩
theorem sy1 (X:Dw) (S:Sd) (s:ByteArray) (hs:s.size≤maxLen) (A:Option Addr) (m c:Nat) (b:List UInt8) (hm:m≤1099511627776) (hw:S.Wf) (w:World) (h:DK w X S) (hr:Row w.heap.size w A m 1 (bts b)) (hA:∀a,A=some a→a.block≠X.d):
  Calls Tryz.prog 28 #[.pointer (some ⟨X.d,0,none⟩),.string s,.slice A m c] w fun e w'=>e=.returned (.int .i64 ((S.append s.data.toList b).2:Int))∧Upd X w w' (S.append s.data.toList b).1:=by
 have hcall:=tz4 X S s hs hw w h;have hw1:=hw.call [s.data.toList];have hbl:b.length=m:=hr.xk;obtain⟨e1,e2,e3,e4,e5,_,_⟩:=Sd.jw S [s.data.toList];have e6:=Sd.gy4 S [s.data.toList];have hsy:=append_eq S s.data.toList b;generalize S.call [s.data.toList]=R at *;obtain⟨S1,er⟩:=R;simp only at *
 by_cases h0:er=0
 ·subst h0
  rw[if_neg (by simp)]at hsy;have hfd:=fun w1 h1=>find_any X S1 s hs w1 h1 hw1.names
  cases h3:S.names.get s.data.toList with
  |none=>
   simp only[h3]at hsy;rw[hsy];simp only[e1,h3]at hfd;clear hsy h3 e1 e2 e3 e4 e5 e6 hw1 hw h hbl;go_enter Tryz.func28,Tryz.ntmps28;go_wp2_with fail;refine hcall.mono ?_;rintro e w1 ⟨rfl,h1,hc1⟩;go_wp2_with fail;refine(hfd w1 h1).mono ?_;rintro e w2 ⟨rfl,rfl⟩;go_wp2;go_ret;exact⟨rfl,Upd.called h1 hc1⟩
  |some i=>
   simp only[h3]at hsy;simp only[e1,h3]at hfd;have hi:i < S1.files.length:=by rw[e3];exact hw.names _ (Nm.get_mem h3)
   have hsz:S.size i=(S1.files[i]).1.length:=by simp[Sd.size,←e3,C_,hi]
   have hgd:S.files.getD i ([],0)=S1.files[i]:=by simp[←e3,C_,hi]
   have hlen:=(hw1.file i hi).2;have hus:=Sd.bj5 hw1;have hq:=hw1.quota;rw[hgd,hsz,←e3,←e5,←e6,hbl]at hsy;obtain⟨p,hp⟩:=n_ (X.ps.getD i (0,Go.undef));rw[←hp]at hfd;have hE:∀(w1:World) (h1:DK w1 X S1),∃fA fc,p.2=.slice fA (S1.files[i]).1.length fc∧w1.cell? ⟨p.1,0,none⟩=some (.slice fA (S1.files[i]).1.length fc):=fun w1 h1=>by
    have hip:i < X.ps.length:=by rw[h1.flen];exact hi
    have hptr:X.ps.getD i (0,Go.undef)=X.ps[i]:=by simp[C_,hip]
    obtain⟨hfb,hfr⟩:=h1.file i hi hip;obtain⟨fA,fc,hfv,_⟩:=dw hfr;have e0:=hfb.c0;rw[hp,hptr];exact⟨fA,fc,hfv,by rw[e0,hfv]⟩
   by_cases hlong:250000 < m∨250000 < (S1.files[i]).1.length+m
   ·rw[if_pos hlong]at hsy
    rw[hsy];have HE:=H_ hE;clear hp hE hsy hsz hgd h3 e1 e2 e3 e4 e5 e6 hw hbl h hus hq;generalize (S1.files[i]).1.length=F at *
    by_cases hl1:250000 < m
    ·have hl1':(250000:Int) < (m:Int):=by omega
     go_enter Tryz.func28,Tryz.ntmps28;go_wp2_with fail;refine hcall.mono ?_;rintro e w1 ⟨rfl,h1,hc1⟩;go_wp2_with fail;refine(hfd w1 h1).mono ?_;rintro e w2 ⟨rfl,rfl⟩;unfold ptrV;go_wp2;go_ret;exact⟨rfl,Upd.called h1 hc1⟩
    ·have hl1':((250000:Int) < (m:Int))=False:=by simp;omega
     have hl2':(250000:Int) - (m:Int) < (F:Int):=by omega
     go_enter Tryz.func28,Tryz.ntmps28;go_wp2_with fail;refine hcall.mono ?_;rintro e w1 ⟨rfl,h1,hc1⟩;go_wp2_with fail;refine(hfd w1 h1).mono ?_;rintro e w2 ⟨rfl,rfl⟩;obtain⟨fA,fc,_,e0⟩:=HE.out w1 h1;unfold ptrV;go_wp2;go_ret;exact⟨rfl,Upd.called h1 hc1⟩
   ·rw[if_neg hlong]at hsy
    have hl1':((250000:Int) < (m:Int))=False:=by simp;omega
    have hl2':((250000:Int) - (m:Int) < ((S1.files[i]).1.length:Int))=False:=by simp;omega
    have hsub:(250000:Int) - (m:Int)≤250000:=by omega
    have hm':m≤250000:=by omega
    have hip:∀w1,DK w1 X S1→i < X.ps.length:=fun w1 h1=>by rw[h1.flen];exact hi
    have hfin:∀(w1 w4:World) (v:Value) (h1:DK w1 X S1) (hg:w1.grownBy w4 p.2.ownBlock) (hown:w4.ownsRow 0 5 1 v ((S1.files[i]).1.length+m) (bts (S1.files[i]).1++bts b)) (hob:v.ownBlock=p.2.ownBlock∨v.ownBlock=some w1.heap.size),
      (w4.cell? ⟨p.1,0,none⟩=some p.2∧w4.frozen? ⟨p.1,0,none⟩=false)∧Upd X w1 (w4.setCell ⟨p.1,0,none⟩ v) { S1 with files:=S1.files.set i ((S1.files[i]).1++b,(S1.files[i]).2) }:=fun w1 w4 v h1 hg hown hob=>by
     have hptr:p=X.ps[i]'(hip w1 h1):=by rw[hp];simp[C_,hip w1 h1]
     rw[hptr]at hg hob ⊢;exact xv4 h1 hi (hip w1 h1) hg (by rw[hbl];exact hown) hob
    have hrow:∀w1,DK w1 X S1→w1.ownsRow 0 5 1 p.2 (S1.files[i]).1.length (bts (S1.files[i]).1):=fun w1 h1=>by
     have hptr:p=X.ps[i]'(hip w1 h1):=by rw[hp];simp[C_,hip w1 h1]
     rw[hptr];exact(h1.file i hi (hip w1 h1)).row
    have HE:=H_ hE;have HFIN:=H_ hfin;have HROW:=H_ hrow;have huse:=fun w1 h1=>nz4 X S1 w1 h1 hw1.names (h_ hus (by omega));clear hE hp hfin hrow hsz hgd h3 e1 e2 e3 e4 e5 e6 hw hbl h hlong hip;have hqd:∀w1,DK w1 X S1→w1.cell? ⟨X.d,0,none⟩=some (.int .i64 (S1.quota:Int)):=fun w1 h1=>by rw[h1.box.cell 0];rfl
    have HQD:=H_ hqd;clear hqd;obtain⟨i0,hi0,hz0,hz1,hz2⟩:=info_parts eq1;have hq1:IntKind.i64.wrap ((S1.quota:Int) - (m:Int))=(S1.quota:Int) - (m:Int):=by
     have hb:-9223372036854775808≤(S1.quota:Int) - (m:Int)∧(S1.quota:Int) - (m:Int)≤9223372036854775807:=by omega
     rw[IntKind.wrap_i64];have hw:=IntWalk.wrap64_in _ hb;unfold wrap64 at hw;exact hw
    have HQ1:=H_ hq1;clear hq1
    by_cases hqf:S1.quota < S1.used+m
    ·rw[if_pos hqf]at hsy
     rw[hsy];have hqf':(S1.quota:Int) - (m:Int) < (S1.used:Int):=by omega
     clear hsy hqf;generalize (S1.files[i]).1.length=F at *;go_enter Tryz.func28,Tryz.ntmps28;go_wp2_with fail;refine hcall.mono ?_;rintro e w1 ⟨rfl,h1,hc1⟩;go_wp2_with fail;refine(hfd w1 h1).mono ?_;rintro e w2 ⟨rfl,rfl⟩;obtain⟨fA,fc,hpv,e0⟩:=HE.out w1 h1;have q0:=HQD.out w1 h1;have hUSE:=H_ huse;clear huse hpv;unfold ptrV;go_wp2;have hq1:=HQ1.out
     go_region_with ((go_at_call 76;refine(hUSE.out _ h1.drew).mono ?_;rintro e w2 ⟨rfl,hb2⟩;have q0:=HQD.out w2 (h1.drew.below hb2)))
     all_goals
      have hfinal:Upd X w w2 S1:=Upd.called (h1.drew.below hb2) (hc1.trans ((Chg.refl [X.d] w1).drew.trans (Chg.of_below hb2 [X.d]) (fun g hg=>.inl hg)) (fun g hg=>.inl hg));clear q0;go_wp2;go_ret;exact⟨rfl,hfinal⟩
    ·rw[if_neg hqf]at hsy
     rw[hsy];have hqf':((S1.quota:Int) - (m:Int) < (S1.used:Int))=False:=by simp;omega
     clear hsy hqf;obtain⟨f,hf⟩:=n_ (S1.files[i]);rw[←hf]at HROW HFIN HE hl2' hlen ⊢;clear hf;go_enter Tryz.func28,Tryz.ntmps28;go_wp2_with fail;refine hcall.mono ?_;rintro e w1 ⟨rfl,h1,hc1⟩;go_wp2_with fail;refine(hfd w1 h1).mono ?_;rintro e w2 ⟨rfl,rfl⟩;obtain⟨fA,fc,hpv,e0⟩:=HE.out w1 h1;have HPV:=H_ hpv;have q0:=HQD.out w1 h1;have hUSE:=H_ huse;have hrA:=H_ (Row.mv2 hr hc1 l_ (fun a e hg=>hA a e (by simpa using hg)));clear huse hpv;unfold ptrV;go_wp2;have hq1:=HQ1.out
     go_region_with ((go_at_call 76;refine(hUSE.out _ h1.drew).mono ?_;rintro e w2 ⟨rfl,hb2⟩;have q0:=HQD.out w2 (h1.drew.below hb2)))
     all_goals
      have h2:=h1.drew.below hb2;have hc2:Chg [X.d] w w2:=hc1.trans ((Chg.refl [X.d] w1).drew.trans (Chg.of_below hb2 [X.d]) (fun g hg=>.inl hg)) (fun g hg=>.inl hg);have hr2:=H_ ((hrA.out.drew.below hb2).arg (h_ (by simp) hb2.size));have e2:w2.cell? ⟨p.1,0,none⟩=some (.slice fA f.1.length fc):=by
       obtain⟨fA',fc',h7,h8⟩:=HE.out w2 h2;rw[h8,←h7,HPV.out]
      have hrw:=HROW.out w2 h2;rw[HPV.out]at hrw;have HRW:=H_ hrw;have hfn:=fun w4 v=>HFIN.out w2 w4 v h2;rw[HPV.out]at hfn;have HFN:=H_ hfn;clear q0 e0 hrw hfn hrA hq1 hl2';go_wp2_with (at_builtin;refine iy ?_);refine gz (bk3 rfl (.tmp 52) (.tmp 53) _ rfl 0 5 i0 _ 1 1 Tryz.underlying56 hi0 hz0 hz1 hz2 rfl (by omega) z_ (.slice fA f.1.length fc) f.1.length _ rfl HRW.out _ A m c (bts b) rfl hr2.out (xy _) (f.1.length+m) _ rfl rfl (by unfold maxLen;omega) (by omega) ?_);intro A4 c4 w4 hown4 hg4 _ _ hob4;obtain⟨⟨q4,q5⟩,hup⟩:=HFN.out _ _ hg4 hown4 hob4;have HU:=H_ (Upd.after hc2 hup);clear hown4 hg4 hob4 HRW HFN hup e2;go_wp2;go_ret;exact⟨rfl,HU.out⟩
 ·have hne:=neq0 h0
  rw[if_pos h0]at hsy;rw[hsy];clear hsy e1 e2 e3 e4 e5 h0 e6;go_enter Tryz.func28,Tryz.ntmps28;go_wp2_with fail;refine hcall.mono ?_;rintro e w1 ⟨rfl,h1,hc1⟩;go_wp2;go_ret;exact⟨rfl,Upd.called h1 hc1⟩
end
end Go.Proofs.YthjdpplgfdihoaaGreatDoor
