/- Texts CrA, OwnSet, CrB, Named, StoM, RowsN in one. No conditions. -/
import Derived.Test.YthjdpplgfdihoaaGreatDoorBunAA
import Derived.Test.YthjdpplgfdihoaaGreatDoorBunAT
import Derived.Deep.QuietTactic
import Derived.BigQuiet
import Derived.StillTailTactics
import Derived.IntWalk
import Derived.Test.YthjdpplgfdihoaaGreatDoorBunAC
import Derived.Test.YthjdpplgfdihoaaGreatDoorBunAS
import Derived.Test.YthjdpplgfdihoaaGreatDoorBunAK
import Derived.Test.YthjdpplgfdihoaaGreatDoorBunAO
import Derived.Test.YthjdpplgfdihoaaGreatDoorBunAI
import Derived.Test.YthjdpplgfdihoaaGreatDoorBunAM

set_option linter.unusedSimpArgs false
set_option linter.unusedVariables false
set_option maxRecDepth 100000
set_option maxHeartbeats 16000000
namespace Go.Proofs.YthjdpplgfdihoaaGreatDoor
section
open Go Go.RowKit Go.Maps
structure Kp (Z:List Nat) (B:Nat) (w:World) (g:Nat) (ks:List Int) (A:Option Addr) (n c:Nat):Prop where
 box:BoxO w 48 g [.slice A n c]
 row:Row B w A n 1 (uz ks)
 nc:n≤c
 cm:c≤maxLen
 off:∀j,j < (uz ks).length→∀a,A=some a→a.block∉Z
theorem Kp.chg {Z:List Nat} {B g n c:Nat} {w w':World} {ks:List Int} {A:Option Addr} {F:List Nat} (h:Kp Z B w g ks A n c) (k:Chg F w w') (hB:B≤w.heap.size) (hg:g∉F) (hF:∀b∈F,B≤b∨b∈Z):Kp Z B w' g ks A n c:=
 ⟨h.box.chg k hg,yj k h.row hB (fun j hj a ha hm=>by
  have h1:=qx4 h.row hj ha
  rcases hF _ hm with h2|h2
  ·omega
  ·exact h.off j hj a ha h2),h.nc,h.cm,h.off⟩
theorem Kp.below {Z:List Nat} {B g n c:Nat} {w w':World} {ks:List Int} {A:Option Addr} (h:Kp Z B w g ks A n c) (k:Below w.heap.size w w') (hB:B≤w.heap.size):Kp Z B w' g ks A n c:=h.chg (Chg.of_below k []) hB (by simp) (by simp)
theorem next_any (Z:List Nat) (B g:Nat) (ks:List Int) (nn:Int) (w:World) (A:Option Addr) (n c:Nat) (h:Kp Z B w g ks A n c) (hB:B≤g):
  Calls Tryz.prog 61 #[.int .i64 nn,.pointer (some ⟨g,0,none⟩)] w fun e w'=>e=.returned (.int .i64 (Sd.next ks nn).1)∧Chg [g] w w'∧∃A' n' c',Kp Z B w' g (Sd.next ks nn).2 A' n' c':=by
 have hl:ks.length=n:=h.row.ilen;have c0:=h.box.cell 0;have f0:=h.box.free 0;simp only[gE0]at c0;have hcm:=h.cm;have hnc:=h.nc;unfold maxLen at hcm
 cases ks with
 |nil=>
  have hn0:n=0:=by simpa using hl.symm
  subst hn0;have H:=Lib.hid h;clear hl h f0;go_enter Tryz.func61,Tryz.ntmps61;go_wp2;go_ret;exact⟨rfl,Chg.refl _ _,A,0,c,H.out⟩
 |cons x r=>
  simp only[List.length_cons]at hl;have hn0:0 < n:=by omega
  obtain⟨a,v,rfl,hab,hv,hcell⟩:=h.row.at1 hn0;have hvx:v=.int .i64 x:=by simpa [uz] using hv.symm
  subst hvx;have hne:a.block≠g:=by omega
  have hcell':w.cell? a=some (.int .i64 x):=by simpa [Addr.add] using hcell
  have hrow:=fun A' (hA:1 < n→A'=(some a).map (·.add (1 *1)))=>h.row.cut (k:=1) (m:=n) (by omega) (Nat.le_refl n) (A':=A') hA;have hrl:uz r=((uz (x::r)).drop (1 *1)).take ((n - 1)*1):=by
   rw[List.take_of_length_le (by simp[uz];omega)];simp[uz]
  rw[←hrl]at hrow;have hoff:=h.off;have hst:=fun A'=>h.box.store 0 (.slice A' (n - 1) (c - 1));simp only[List.set_cons_zero]at hst;have hfin:∀A':Option Addr,(1 < n→A'=(some a).map (·.add (1 *1)))→Kp Z B (w.setCell ⟨g,0,none⟩ (.slice A' (n - 1) (c - 1))) g r A' (n - 1) (c - 1):=fun A' hA=>⟨hst A',(hrow A' hA).setCell hB _,by omega,by unfold maxLen;omega,fun j hj a' ha=>by
   have h1:1 < n:=by simp[uz]at hj;omega
   rw[hA h1]at ha;injection ha with ha;subst ha;rw[add_block];exact hoff 0 (by simp[uz]) a rfl⟩
  have HF:=Lib.hid hfin;have hcg:∀v,Chg [g] w (w.setCell ⟨g,0,none⟩ v):=fun v=>pz w ⟨g,0,none⟩ v;have HCG:=Lib.hid hcg;have hn1:((n:Int)==0)=false:=by rw[beq_eq_false_iff_ne];omega
  obtain⟨n1,hn2⟩:∃n1:Nat,n1=n - 1:=⟨_,rfl⟩;clear hrow hrl hst hfin hcg hl hv hcell h hoff
  by_cases hc1:c=1
  ·subst hc1
   have hn11:n=1:=by omega
   subst hn11;go_enter Tryz.func61,Tryz.ntmps61;go_wp2;go_ret;exact⟨rfl,HCG.out _,_,_,_,HF.out _ (fun h=>absurd h (by decide))⟩
  ·have hc2:1 < c:=by omega
   have hc3:(1:Int) < (c:Int):=by omega
   have hn3:(1:Int)≤(n:Int):=by omega
   clear hc1;go_enter Tryz.func61,Tryz.ntmps61;go_wp2;go_ret;exact⟨rfl,HCG.out _,_,_,_,HF.out _ (fun _=>rfl)⟩
end
section
open Go Go.RowKit
theorem sw4 {w:World} {base size n c:Nat} {e:TypeId} {a:Addr} {xs:List Value} (h:w.ownsRow base e size (.slice (some a) n c) n xs):
  ∃g cur,a=⟨g,0,none⟩∧base≤g∧BoxO w e g cur∧cur.length=c *size∧n≤c∧c≤maxLen∧cur.take (n *size)=xs:=by
 rcases h.2 with ⟨h0,_⟩|⟨g,cap,cur,h1,hb,hg,hn,hc,hs,ht⟩
 ·cases h0
 ·injection h1 with h2 h3 h4
  injection h2 with h2;subst h2 h4;exact⟨g,cur.toList,rfl,hb,by simpa [BoxO] using hg,by simpa using hs,hn,hc,ht⟩
theorem vy4 {w:World} {base size n c g:Nat} {e:TypeId} {cur:List Value} (hb:base≤g) (h:BoxO w e g cur) (hl:cur.length=c *size) (hn:n≤c) (hc:c≤maxLen):w.ownsRow base e size (.slice (some ⟨g,0,none⟩) n c) n (cur.take (n *size)):=
 ⟨by rw[List.length_take,hl];exact Nat.min_eq_left (Nat.mul_le_mul_right _ hn),.inr ⟨g,c,cur.toArray,rfl,hb,h,hn,hc,by simpa using hl,by simp⟩⟩
theorem ky4 {w:World} {base size n c:Nat} {e:TypeId} {xs:List Value} (h:w.ownsRow base e size (.slice none n c) n xs):n=0∧c=0:=by
 rcases h.2 with ⟨h0,_⟩|⟨g,cap,cur,h1,_⟩
 ·injection h0 with _ h1 h2
  exact⟨h1,h2⟩
 ·cases h1
end
section
open Go Go.RowKit Go.Maps
theorem nk4 (a:Int):bits .and .i64 a 1=a % 2:=by
 have e:bits .and .i64 a 1=IntKind.i64.wrap ((BitVec.ofInt 64 a&&&BitVec.ofInt 64 1).toNat:Int):=rfl;have h1:(BitVec.ofInt 64 (1:Int)).toNat=1:=by decide
 rw[e,BitVec.toNat_and,h1,Nat.and_one_is_mod,BitVec.toNat_ofInt,IntKind.wrap_i64];omega
theorem lj3 {t:Tn} {r:List Tn} {m:Nm} {ks:List Int}:Sd.doTurns (t::r) m ks=Sd.doTurns r (if (Sd.next ks 0).1 % 2=0 then t.go m else m) (Sd.next ks 0).2:=rfl
theorem DK.cz4 {w w':World} {X:Dw} {S:Sd} {n:Nat} {M:Nm} (h:DK w X S) (hn:qj w' X.lb n M) (c:Chg [X.lb] w w'):DK w' X { S with lasted:=M }:=by
 have a:=h.apart;exact⟨h.box.chg c (by simpa using a.d_lb),tq h.names c (by simpa using a.nb_lb),yz1 hn,ny h.files c (fun g e=>by simpa using (a.fv g e).2.2.1),fun i hi h2=>(h.file i hi h2).chg c (fun g e=>by simpa using (a.ps _ (List.getElem_mem h2) g e).2.2.1),
  ny h.turns c (fun g e=>by simpa using (a.tv g e).2.2.1),h.nodup⟩
theorem iz1 {w:World} {b n:Nat} {M:Nm} (h:qj w b n M):Nm.Apart M:=by
 obtain⟨es,hes0,hpw,_⟩:=h.entries jj1;have hes:es=M.map Nm.lit1:=by
  unfold Nm.enc at hes0;injection hes0 with hes0;exact hes0.symm
 rw[hes,List.pairwise_map]at hpw;exact hpw.imp (fun {a b} hab e=>hab (by simp only[Nm.lit1,e]))
def Fok (n:Nat) (fs:List (List UInt8×Nat)):Prop:=fs.length=n∧∀(i:Nat) (f:List UInt8×Nat),fs[i]?=some f→f.2≤f.1.length∧f.1.length≤250000
theorem gy2 (n:Nat) (x:Int):Sd.kept n x≤n:=by
 unfold Sd.kept;have h1:=Int.emod_nonneg x (show ((n:Int)+1)≠0 by omega);have h2:=Int.emod_lt_of_pos x (show (0:Int) < (n:Int)+1 by omega);omega
theorem ly3 (n:Nat) (x:Int):(x.tmod ((n:Int)+1)=(Sd.kept n x:Int))∨(x.tmod ((n:Int)+1) < 0∧-(n:Int)≤x.tmod ((n:Int)+1)∧x.tmod ((n:Int)+1)+((n:Int)+1)=(Sd.kept n x:Int)):=by
 unfold Sd.kept;have h1:=Int.emod_nonneg x (show ((n:Int)+1)≠0 by omega);have h2:=Int.emod_lt_of_pos x (show (0:Int) < (n:Int)+1 by omega);rw[Int.toNat_of_nonneg h1]
 rcases Int.lt_or_le x 0 with hx|hx
 ·have e0:=Int.mul_tdiv_add_tmod x ((n:Int)+1)
  have e1:x % ((n:Int)+1)=(x.tmod ((n:Int)+1)) % ((n:Int)+1):=by
   conv=>lhs;rw[←e0,Int.add_comm,Int.add_mul_emod_self_left]
  have e2:x.tmod ((n:Int)+1)=-((-x).tmod ((n:Int)+1)):=by rw[Int.neg_tmod,Int.neg_neg]
  have e3:=Int.tmod_nonneg ((n:Int)+1) (show 0≤-x by omega);have e4:=Int.tmod_lt_of_pos (-x) (show (0:Int) < (n:Int)+1 by omega);generalize x.tmod ((n:Int)+1)=t at *;generalize (-x).tmod ((n:Int)+1)=u at *
  rcases Int.lt_or_le t 0 with ht|ht
  ·right
   refine⟨ht,by omega,?_⟩;have e5:(t+((n:Int)+1)) % ((n:Int)+1)=t % ((n:Int)+1):=by simp
   rw[Int.emod_eq_of_lt (by omega) (by omega)]at e5;rw[e1,←e5]
  ·left
   rw[e1,Int.emod_eq_of_lt ht (by omega)]
 ·left
  exact Int.tmod_eq_emod_of_nonneg hx
theorem fj4 {i:Nat} {r:List Nat} {fs:List (List UInt8×Nat)} {ks:List Int} {f:List UInt8×Nat} (hf:fs[i]?=some f) (h:f.1.length - f.2=0):Sd.cutFiles (i::r) fs ks=Sd.cutFiles r fs ks:=by
 have hg:fs.getD i ([],0)=f:=by rw[List.getD_eq_getElem?_getD,hf];rfl
 rw[Sd.cutFiles,hg,if_pos h]
theorem oq4 {i n:Nat} {r:List Nat} {fs:List (List UInt8×Nat)} {ks:List Int} {f:List UInt8×Nat} (hf:fs[i]?=some f) (h:f.1.length - f.2=n) (hn:n≠0):Sd.cutFiles (i::r) fs ks=Sd.cutFiles r (fs.set i (f.1.take (f.2+Sd.kept n (Sd.next ks n).1),f.2+Sd.kept n (Sd.next ks n).1)) (Sd.next ks n).2:=by
 have hg:fs.getD i ([],0)=f:=by rw[List.getD_eq_getElem?_getD,hf];rfl
 have hk:=gy2 n (Sd.next ks n).1;rw[Sd.cutFiles,hg,if_neg (by omega),h];simp only[List.length_take];rw[Nat.min_eq_left (by omega)]
theorem ck4 (X:Dw) (S:Sd) (w:World) (A:Option Addr) (n c:Nat) (ks:List Int) (hw:S.Wf) (hload:S.load≤1099511627776) (h:DK w X S) (hr:Row w.heap.size w A n 1 (uz ks)) (hn:n≤c) (hc:c≤maxLen) (hA:∀j,j < (uz ks).length→∀a,A=some a→a.block∉X.foot) (hbs:∀t∈S.turns,t.b.length≤1000) (hlm:S.lasted.length≤1099511627776):
  Calls Tryz.prog 16 #[.pointer (some ⟨X.d,0,none⟩),.slice A n c] w fun e w'=>e=.returned (.tuple #[])∧Upd X w w' (S.xk ks):=by
 have hb0:=(Below.refl w.heap.size w).alloc (Nat.le_refl _) (.cells #[.slice A n c] 48);have hbx0:=BoxO.new w #[.slice A n c] 48;have hD0:=h.below hb0;have hled:=tv4 X S _ hD0 hload;have hk0:Kp X.foot w.heap.size (w.alloc (.cells #[.slice A n c] 48)) w.heap.size ks A n c:=⟨hbx0,hr.below hb0,hn,hc,hA⟩;have hgX:∀(X1:Dw),(∀g∈X1.foot,g∈X.foot∨w.heap.size+1≤g)→w.heap.size∉X1.foot:=fun X1 hf hm=>by
  rcases hf _ hm with h1|h1
  ·have:=h.lt _ h1;omega
  ·omega
 have hLi:∀i∈S.led,i < S.files.length:=fun i hi=>by
  unfold Sd.led at hi;exact List.mem_range.1 (List.mem_filter.1 hi).1
 obtain⟨L,hL⟩:∃L,L=S.led:=⟨_,rfl⟩;rw[←hL]at hled hLi;obtain⟨C,hC⟩:∃C,C=Sd.cutFiles L S.files ks:=⟨_,rfl⟩;have hcr:S.xk ks={ S with files:=C.1,names:=Sd.doTurns S.turns S.lasted C.2,lasted:=Sd.doTurns S.turns S.lasted C.2,turns:=[],dead:=false,stop:=0,fail:=0 }:=by rw[hC,hL];rfl
 have hfok:Fok S.files.length S.files:=⟨rfl,fun i f hf=>by
  obtain⟨hi,e⟩:=List.getElem?_eq_some_iff.1 hf;rw[←e];exact hw.file i hi⟩
 have HCR:=Lib.hid hcr;have HC:=Lib.hid hC;have HLI:=Lib.hid hLi;have HGX:=Lib.hid hgX;have HFOK:=Lib.hid hfok;have HLL:Hid (L.length≤1099511627776):=Lib.hid (by
  rw[hL];unfold Sd.led;have:=List.length_filter_le S.aw1 (List.range S.files.length);rw[List.length_range]at this;unfold Sd.load at hload;omega)
 have hsz0:(w.alloc (.cells #[.slice A n c] 48)).heap.size=w.heap.size+1:=by simp
 have HW:=Lib.hid hw;have HBS:=Lib.hid hbs;clear hbs;have hlt0:=h.box.lt;have hXlt:=h.lt;clear hcr hC hL hLi hgX hbx0 hfok hr hA h hw;generalize hW0:w.alloc (.cells #[.slice A n c] 48)=W0 at *;go_enter Tryz.func16,Tryz.ntmps16;go_wp2_with fail;refine hled.mono ?_;rintro e w1 ⟨lA,lc,rfl,hllc,hlcm,hown1,hb1⟩;have hD1:=hD0.below hb1;have hk1:=hk0.below hb1 (by rw[hsz0];omega);have hb01:Below w.heap.size w w1:=hb0.trans (hb1.mono hb0.size);have hown1':w1.ownsRow (w.heap.size+1) 3 1 (.slice lA L.length lc) L.length (pq1 L):=by rw[←hsz0];exact hown1
 have hsz1:w.heap.size+1≤w1.heap.size:=by rw[←hsz0];exact hb1.size
 have hcg1:Chg X.foot w w1:=Chg.of_below hb01 X.foot;have hL6:L.length≤1099511627776:=by have:=HLL.out;omega
 clear hled hD0 hk0 hb1 hown1 hb0 hsz0;go_wp2_with fail
 go_loopw [16] (fun jj wr=>∃(j:Nat) (fs:List (List UInt8×Nat)) (ks1:List Int) (X1:Dw) (A1:Option Addr) (n1 c1:Nat),j≤L.length∧jj=.int .i64 (j:Int)∧X1.d=X.d∧DK wr X1 { S with files:=fs }∧Chg X.foot w wr∧w.heap.size+1≤wr.heap.size∧(∀g∈X1.foot,g∈X.foot)∧Kp X.foot w.heap.size wr w.heap.size ks1 A1 n1 c1∧wr.ownsRow (w.heap.size+1) 3 1 (.slice lA L.length lc) L.length (pq1 L)∧Hid (Fok S.files.length fs)∧Hid (Sd.cutFiles (L.drop j) fs ks1=C)) (fun jj _=>L.length - (intOf jj).toNat)
 case atStart=>exact⟨0,S.files,ks,X,A,n,c,Nat.zero_le _,rfl,rfl,hD1,hcg1,hsz1,fun _ h=>h,hk1,hown1',HFOK,Lib.hid (by rw[List.drop_zero];exact HC.out.symm)⟩
 case round=>
  obtain⟨j,fs,ks1,X1,A1,n1,c1,hj,rfl,hxd,hD,hcg,hsz,hfX,hkp,hown,hfk,hcut⟩:=hrel;clear hD1 hk1 hown1' hcg1 hsz1 hb01
  by_cases hlt:j < L.length
  ·obtain⟨la,v,hla,hlb,hlv,hlc⟩:=(Row.own hown).at1 hlt
   subst hla;obtain⟨i,hi⟩:∃i,i=L[j]:=⟨_,rfl⟩;have hvi:v=.int .i64 (i:Int):=by rw[hi];simp[pq1,hlt]at hlv;exact hlv.symm
   subst hvi;have hiF:i < fs.length:=by rw[hfk.out.1,hi];exact HLI.out _ (List.getElem_mem hlt)
   have hdr:L.drop j=i::L.drop (j+1):=by rw[hi];exact List.drop_eq_getElem_cons hlt
   have hcut':=hcut.out;rw[hdr]at hcut';have hip:i < X1.ps.length:=by rw[hD.flen];exact hiF
   obtain⟨f,hf⟩:∃f,f=fs[i]:=⟨_,rfl⟩;have hfi:fs[i]?=some f:=by rw[hf];exact List.getElem?_eq_getElem hiF
   have hfo:=hfk.out.2 i f hfi;have hD1c:=hD.box.cell 1;simp only[Dw.cells,gE0,gE1]at hD1c;rw[hxd]at hD1c;obtain⟨gf,capf,hfv,hfc,hfm⟩:=hD.fileAt hiF;rw[hfv]at hD1c;have hptr:X1.ps.getD i (0,Go.undef)=X1.ps[i]:=by simp[List.getD_eq_getElem?_getD,hip]
   rw[hptr]at hfc;have hfile:mx1 wr X1.ps[i] f:=by rw[hf];exact hD.file i hiF hip
   have key:=fun(W w2:World) (hDW:DK W X1 { S with files:=fs }) (v:Value) (f2:List UInt8×Nat) (hf2:mx1 w2 ((X1.ps[i]).1,v) f2) (cc:Chg (bz X1.ps[i]) W w2) (hv:∀g,v.ownBlock=some g→(X1.ps[i]).2.ownBlock=some g)=>DK.jy hDW hip hf2 cc (fun g e=>.inl (hv g e));have hfs:=fun(v:Value) (hv:∀g,v.ownBlock=some g→(X1.ps[i]).2.ownBlock=some g) (g:Nat) (hg:g∈({ X1 with ps:=X1.ps.set i ((X1.ps[i]).1,v) }:Dw).foot)=>(ky2 hip (n:=g+1) (fun g e=>.inl (hv g e)) g hg).resolve_right (by omega);have hffo:=fun g hg=>jk1 (X:=X1) (i:=i) hip (g:=g) hg;have hself:=hD.apart.self _ (List.getElem_mem hip);have hiF':(i:Int) < (fs.length:Int):=by omega
   generalize X1.ps[i]=p at *;obtain⟨pb,pv⟩:=p;obtain⟨hfb,hfr⟩:=hfile;simp only at hfb hfr;obtain⟨bA,bc,hbv,hbn,hbm,_⟩:=ay hfr;subst hbv;have e0:=hfb.cell 0;have e1:=hfb.cell 1;have z0:=hfb.free 0;have z1:=hfb.free 1;simp only[gE0,gE1]at e0 e1;obtain⟨nn,hnn⟩:∃nn:Nat,(f.1.length:Int) - (f.2:Int)=(nn:Int):=⟨f.1.length - f.2,by omega⟩;have hn3:f.1.length - f.2=nn:=by omega
   have hnr:nn≤250000:=by omega
   unfold ptrV at hfc;have HK:=Lib.hid key;have HFS:=Lib.hid hfs;have HFF:=Lib.hid hffo;have HCU:=Lib.hid hcut';have HFI:=Lib.hid hfi;have HFO:=Lib.hid hfo;have HN3:=Lib.hid hn3;have HSF:=Lib.hid hself;clear key hfs hffo hcut' hcut hfi hn3 hi hf hlv hdr hptr hself;go_upto_region 6 with (fail)
   go_quiet (fail)
   have hbq:Below wr.heap.size wr (wr.drewN nq):=below_drewN (Below.refl _ _) nq
   by_cases hn0:nn=0
   ·subst hn0
    have HC0:=Lib.hid ((fj4 HFI.out HN3.out).symm.trans HCU.out);go_wp2;go_roundw
    case rel=>exact⟨j+1,fs,ks1,X1,A1,n1,c1,by omega,by go_num,hxd,hD.below hbq,hcg.trans (Chg.of_below hbq []) (fun g hg=>by cases hg),hsz,hfX,hkp.below hbq (by omega),own_below hown hbq,hfk,HC0⟩
    case measure=>simp[intOf];omega
   ·have e9:((nn:Int)==0)=false:=by rw[beq_eq_false_iff_ne];omega
    have hkq:=hkp.below hbq (by omega);have hnx:=next_any X.foot w.heap.size w.heap.size ks1 (nn:Int) (wr.drewN nq) A1 n1 c1 hkq (Nat.le_refl _);have HC1:=Lib.hid ((oq4 HFI.out HN3.out hn0).symm.trans HCU.out);have hkr:=gy2 nn (Sd.next ks1 nn).1;have hkc:=ly3 nn (Sd.next ks1 nn).1;generalize Sd.next ks1 (nn:Int)=nx at *;obtain⟨xx,ks2⟩:=nx;simp only at hnx hkr hkc;obtain⟨kk,hkk⟩:∃kk,kk=Sd.kept nn xx:=⟨_,rfl⟩;rw[←hkk]at hkr hkc;have HKK:=Lib.hid hkk;have HNX:=Lib.hid hnx;have HKC:=Lib.hid hkc;have hnp:0 < nn:=by omega
    clear hnx hkc hkk hn0;obtain⟨mm,hmm⟩:∃mm:Nat,(f.2:Int)+(kk:Int)=(mm:Int):=⟨f.2+kk,by omega⟩;have hmm2:mm=f.2+kk:=by omega
    have HMM:=Lib.hid hmm2;have hml:mm≤f.1.length:=by omega
    have hmc:(mm:Int)≤(bc:Int):=by omega
    obtain⟨ba,rfl⟩:∃ba,bA=some ba:=by
     cases bA with
     |none=>have:=ky4 hfr;omega
     |some a=>exact⟨a,rfl⟩
    obtain⟨gb,cu,rfl,_,hbx,hcl,_,_,htk⟩:=sw4 hfr;have HTK:=Lib.hid htk;have HCL:=Lib.hid hcl;clear htk hcl hmm2;go_wp2_with fail;refine HNX.out.mono ?_;rintro e w3 ⟨rfl,hc3,A3,n3,c3,hkp3⟩;simp only;have hgX1:w.heap.size∉X1.foot:=fun hm=>by have:=hfX _ hm;have:=hXlt _ this;omega
    have hcw3:Chg [w.heap.size] wr w3:=(Chg.of_below hbq [w.heap.size]).trans hc3 (fun g hg=>.inl hg);have hD3:=hD.chg hcw3 (by simpa using hgX1);have hcg3:Chg X.foot w w3:=hcg.trans hcw3 (fun g hg=>.inr (by rw[List.mem_singleton.1 hg];exact Nat.le_refl _));have hown3:=ny hown hcw3 (fun g hg hm=>by have:=(hown.lt g hg).1;simp at hm;omega);have hfb3:=hfb.chg hcw3 (by simp only[List.mem_singleton];intro e;subst e;exact hgX1 (HFF.out _ (by simp[bz])));have hbx3:=hbx.chg hcw3 (by simp only[List.mem_singleton];intro e;subst e;exact hgX1 (HFF.out _ (by simp[bz,Value.ownBlock])));have e0:=hfb3.cell 0;have e1:=hfb3.cell 1;have z0:=hfb3.free 0;have z1:=hfb3.free 1;simp only[gE0,gE1]at e0 e1;have hne:gb≠pb:=by
     have:=HSF.out;simp only[Value.ownBlock,ne_eq,Option.some.injEq]at this;exact this
    have h1:=hfb3.store 0 (.slice (some ⟨gb,0,none⟩) mm bc);have h2:=h1.store 1 (.int .i64 (mm:Int));simp only[List.set_cons_zero,List.set_cons_succ]at h2;obtain⟨w5,hw5⟩:∃w5,w5=(w3.setCell ⟨pb,0,none⟩ (.slice (some ⟨gb,0,none⟩) mm bc)).setCell ⟨pb,1,none⟩ (.int .i64 (mm:Int)):=⟨_,rfl⟩;have hcp:Chg [pb] w3 w5:=by
     rw[hw5];exact((Chg.refl [pb] w3).setCell _ (.inl (by simp))).setCell _ (.inl (by simp))
    rw[←hw5]at h2;have hbx5:=hbx3.chg hcp (by simpa using hne);have hrow5:=vy4 (base:=0) (n:=mm) (Nat.zero_le _) hbx5 HCL.out (by omega) hbm;have hset:cu.take (mm *1)=bts (f.1.take mm):=by
     have h3:=HTK.out;rw[Nat.mul_one]at h3 ⊢;rw[ej1,←h3,List.take_take,Nat.min_eq_left hml]
    rw[hset]at hrow5;have htl:(f.1.take mm).length=mm:=by rw[List.length_take];omega
    have hrow6:w5.ownsRow 0 5 1 (.slice (some ⟨gb,0,none⟩) mm bc) (f.1.take mm).length (bts (f.1.take mm)):=by rw[htl];exact hrow5
    have hff5:Chg (bz (pb,Value.slice (some ⟨gb,0,none⟩) f.1.length bc)) w3 w5:=hcp.mono (fun g hg=>.inl (by rw[List.mem_singleton.1 hg];simp[bz]));have hvv:∀g,(Value.slice (some ⟨gb,0,none⟩) mm bc).ownBlock=some g→(Value.slice (some ⟨gb,0,none⟩) f.1.length bc).ownBlock=some g:=fun g hg=>hg;have hD5:=HK.out w3 w5 hD3 (.slice (some ⟨gb,0,none⟩) mm bc) (f.1.take mm,mm) ⟨h2,hrow6⟩ hff5 hvv;have hf5:=HFS.out (.slice (some ⟨gb,0,none⟩) mm bc) hvv;have hpbX:=HFF.out pb (by simp[bz]);have hcg5:Chg X.foot w w5:=hcg3.trans hcp (fun g hg=>.inl (by rw[List.mem_singleton.1 hg];exact hfX _ hpbX));have hkp5:=hkp3.chg hcp (Nat.le_trans (by omega) hcg3.size) (by simp only[List.mem_singleton];intro e;exact hgX1 (by rw[e];exact hpbX)) (fun b hb=>.inr (by rw[List.mem_singleton.1 hb];exact hfX _ hpbX));have hown5:=ny hown3 hcp (fun g hg hm=>by
     have h3:=(hown3.lt g hg).1;have h4:=hXlt _ (hfX _ hpbX);rw[List.mem_singleton.1 hm]at h3;omega)
    have hfk5:Fok S.files.length (fs.set i (f.1.take mm,mm)):=⟨by rw[List.length_set];exact hfk.out.1,fun x y hxy=>by
     rw[List.getElem?_set]at hxy;split at hxy
     ·injection hxy with hxy
      rw[←hxy];simp only[List.length_take];omega
     ·exact hfk.out.2 x y hxy⟩
    have HC5:=HC1.out;rw[←HKK.out,←HMM.out]at HC5;have FIN:Hid (∀w6,Below w5.heap.size w5 w6→∃(fs:List (List UInt8×Nat)) (ks1:List Int) (X1:Dw) (A1:Option Addr) (n1 c1:Nat),X1.d=X.d∧DK w6 X1 { S with files:=fs }∧Chg X.foot w w6∧w.heap.size+1≤w6.heap.size∧(∀g∈X1.foot,g∈X.foot)∧Kp X.foot w.heap.size w6 w.heap.size ks1 A1 n1 c1∧w6.ownsRow (w.heap.size+1) 3 1 (.slice (some la) L.length lc) L.length (pq1 L)∧Hid (Fok S.files.length fs)∧Hid (Sd.cutFiles (L.drop (j+1)) fs ks1=C)):=Lib.hid (fun w6 hb6=>⟨fs.set i (f.1.take mm,mm),ks2,{ X1 with ps:=X1.ps.set i (pb,Value.slice (some ⟨gb,0,none⟩) mm bc) },A3,n3,c3,hxd,hD5.below hb6,hcg5.trans (Chg.of_below hb6 []) (fun g hg=>by cases hg),Nat.le_trans hsz (Nat.le_trans hcw3.size (Nat.le_trans hcp.size hb6.size)),fun g hg=>hfX g (hf5 g hg),hkp5.below hb6 (Nat.le_trans (by omega) (Nat.le_trans hcw3.size hcp.size)),own_below hown5 hb6,Lib.hid hfk5,Lib.hid HC5⟩);have hszw:w.heap.size≤wr.heap.size:=by omega
    clear HC5 hfk5 hown5 hkp5 hcg5 hf5 hD5 hvv hff5 hrow6 htl hset hrow5 hbx5 h2 h1 hown3 hcg3 hD3 hcw3 hgX1 hfb3 hbx3 hkp3 HNX HCU HFI HN3 HK HFS HFF HTK HCL hfb hfr hown hkp hcg hD;have HW5:=Lib.hid hw5;clear hw5
    rcases HKC.out with hk|⟨hk1,hk2,hk3⟩
    all_goals
     go_wp2_with fail;have hmi:IntKind.i64.wrap (mm:Int)=(mm:Int):=IntWalk.i64_in _ (by omega)
     go_still_tail 14,(by kernel_rfl)
     change wpList _ _ _ _ _ (World.drew w3);go_wp2;go_roundw
     case rel=>
      obtain⟨fs',ks',X',A',n',c',g1,g2,g3,g4,g5,g6,g7,g8,g9⟩:=FIN.out w5.drew (ak (Below.refl _ _));rw[show w5=_ from HW5.out]at g2 g3 g4 g6 g7;exact⟨j+1,fs',ks',X',A',n',c',by omega,by go_num,g1,g2,g3,g4,g5,g6,g7,g8,g9⟩
     case measure=>simp[intOf];omega
  ·obtain rfl:j=L.length:=by omega
   have hcf:C=(fs,ks1):=by
    have:=hcut.out;rw[List.drop_length]at this;exact this.symm
   have HCF:=Lib.hid hcf;clear hcf hcut;have hTl:S.turns.length≤1099511627776:=by unfold Sd.load at hload;omega
   have hFl:S.files.length≤1099511627776:=by unfold Sd.load at hload;omega
   obtain⟨tA,tc,htv,htn,htm,_⟩:=ay hD.turns;simp only at htv htn;have d4:=hD.box.cell 4;simp only[Dw.cells,gE0,gE1]at d4;rw[hxd,htv]at d4;have htg:=HW.out.gturns;have htu:=HW.out.turn;clear hown;go_wp2_with fail
   go_loopw [79] (fun jj wr2=>∃(j:Nat) (m:Nm) (ks2:List Int) (A2:Option Addr) (n2 c2:Nat),j≤S.turns.length∧jj=.int .i64 (j:Int)∧DK wr2 X1 { S with files:=fs,lasted:=m }∧Chg X.foot w wr2∧w.heap.size+1≤wr2.heap.size∧Kp X.foot w.heap.size wr2 w.heap.size ks2 A2 n2 c2∧m.length≤S.lasted.length+j∧Hid (Sd.doTurns (S.turns.drop j) m ks2=Sd.doTurns S.turns S.lasted ks1)) (fun jj _=>S.turns.length - (intOf jj).toNat)
   case atStart=>exact⟨0,S.lasted,ks1,A1,n1,c1,Nat.zero_le _,rfl,hD,hcg,hsz,hkp,by omega,Lib.hid (by rw[List.drop_zero])⟩
   case round=>
    obtain⟨j,m,ks2,A2,n2,c2,hj2,rfl,hD2,hcg2,hsz2,hkp2,hml2,hdt⟩:=hrel;clear hD hcg hsz hkp d4;have hgX1:w.heap.size∉X1.foot:=fun hm=>by have:=hfX _ hm;have:=hXlt _ this;omega
    by_cases hlt2:j < S.turns.length
    ·have hrt:=hD2.turns
     rw[htv]at hrt;obtain⟨ta,htl,hta,htb,q0,q1,q2,q3⟩:=(Row.own hrt).turn hlt2;subst hta;obtain⟨t,ht⟩:∃t,t=S.turns[j]:=⟨_,rfl⟩;rw[←ht]at q0 q1 q2 q3;have hdr:S.turns.drop j=t::S.turns.drop (j+1):=by rw[ht];exact List.drop_eq_getElem_cons hlt2
     have hdt':=hdt.out;rw[hdr,lj3]at hdt';have hg:=htg t (by rw[ht];exact List.getElem_mem _);have hu:=htu t (by rw[ht];exact List.getElem_mem _);have hbt0:=HBS.out t (by rw[ht];exact List.getElem_mem _);have hbb:=(Below.refl wr.heap.size wr).alloc (Nat.le_refl _) (.cells (iw t).toArray 118);have hbt:=BoxO.new wr (iw t).toArray 118;have hkp3:=hkp2.below hbb (by omega);have hnx:=next_any X.foot w.heap.size w.heap.size ks2 0 _ A2 n2 c2 hkp3 (Nat.le_refl _);have hD3:=hD2.below hbb;generalize Sd.next ks2 0=nx at *;obtain⟨xx,ks3⟩:=nx;simp only at hnx hdt';have hom:=nk4 xx;have hsb:wr.heap.size < (wr.alloc (.cells (iw t).toArray 118)).heap.size:=by simp
     have HNX:=Lib.hid hnx;have HDT:=Lib.hid hdt';have hcw:Chg X.foot w (wr.alloc (.cells (iw t).toArray 118)):=hcg2.trans (Chg.of_below hbb []) (fun g hg=>by cases hg);have HSZ:Hid (w.heap.size+1≤(wr.alloc (.cells (iw t).toArray 118)).heap.size):=Lib.hid (by simp;omega);clear hnx hdt' hdt hdr ht hrt hkp2 hkp3 hD2 hbb hcg2;unfold iw at *;have hwne:w.heap.size≠wr.heap.size:=by omega
     generalize hVe:wr.alloc (.cells _ 118)=V at *;obtain⟨tb,htbE⟩:∃tb,tb=wr.heap.size:=⟨_,rfl⟩;go_wp2_with fail;refine HNX.out.mono ?_;rintro e w3 ⟨rfl,hc3,A3,n3,c3,hkp4⟩;have hD4:=hD3.chg hc3 (by simpa using hgX1);have hcw4:Chg X.foot w w3:=hcw.trans hc3 (fun g hg=>.inr (by rw[List.mem_singleton.1 hg];exact Nat.le_refl _));have hbt4:=hbt.chg hc3 (by simpa using hwne.symm);have hsz4:=Nat.le_trans HSZ.out hc3.size
     by_cases hod:xx % 2=0
     ·rw[hod]at hom
      rw[if_pos hod]at HDT;have c0:=hbt4.cell 0;have c1':=hbt4.cell 1;have c2':=hbt4.cell 2;have c3':=hbt4.cell 3;have d3:=hD4.box.cell 3;simp only[Dw.cells,gE0,gE1]at c0 c1' c2' c3' d3;rw[hxd]at d3;have hdo:=wj3 t.kind t.file t.a t.b (by have:=dw1 hg.1;unfold maxLen;omega) (by have:=hbt0;unfold maxLen;omega) (by omega) X1.lb m.length m w3.drew hD4.lasted.drew (by unfold maxLen;omega) hg.2.2;have HDO:=Lib.hid hdo;clear hdo hD3 hbt hVe;go_wp2_with fail
      go_still_tail 5,(by kernel_rfl)
      change wpList _ _ _ _ _ (World.drew w3);go_wp2_with fail;simp only[cy3]at HDO;refine HDO.out.mono ?_;rintro e w5 ⟨rfl,hn5,hc5⟩;have hc5':Chg [X1.lb] w3 w5:=(Chg.refl [X1.lb] w3).drew.trans hc5 (fun g hg=>.inl hg);have hD5:=hD4.cz4 hn5 hc5';have hlbX:=hfX X1.lb (aj.2 (.inr (.inr (.inl rfl))));have hcw5:Chg X.foot w w5:=hcw4.trans hc5' (fun g hg=>.inl (by rw[List.mem_singleton.1 hg];exact hlbX));have hkp5:=hkp4.chg hc5' (by omega) (by simp only[List.mem_singleton];intro e;have:=hXlt _ hlbX;omega) (fun b hb=>.inr (by rw[List.mem_singleton.1 hb];exact hlbX));have hgl:=tq2 (m:=m) (iz1 hD4.lasted) t;have hsz5:=Nat.le_trans hsz4 hc5'.size;have hml5:(Tn.go ⟨t.kind,t.file,t.a,t.b⟩ m).length≤S.lasted.length+(j+1):=by
       have:Tn.go ⟨t.kind,t.file,t.a,t.b⟩ m=t.go m:=rfl;rw[this];split at hgl<;>omega
      clear hgl hn5 hc5 hc5' hD4 hcw4 hkp4 hbt4 HDO;go_wp2;go_roundw
      case rel=>exact⟨j+1,_,ks3,A3,n3,c3,by omega,by go_num,hD5,hcw5,hsz5,hkp5,hml5,HDT⟩
      case measure=>simp[intOf];omega
     ·have hod1:xx % 2=1:=by omega
      rw[hod1]at hom;rw[if_neg hod]at HDT;clear hD3 hbt hVe;go_wp2;go_roundw
      case rel=>exact⟨j+1,m,ks3,A3,n3,c3,by omega,by go_num,hD4,hcw4,hsz4,hkp4,by omega,HDT⟩
      case measure=>simp[intOf];omega
    ·obtain rfl:j=S.turns.length:=by omega
     have hmf:Sd.doTurns S.turns S.lasted ks1=m:=by
      have:=hdt.out;rw[List.drop_length]at this;exact this.symm
     have hbx2:=hD2.box;rw[hxd]at hbx2;have d2:=hbx2.cell 2;have d3:=hbx2.cell 3;have f2:=hbx2.free 2;simp only[Dw.cells,gE0,gE1]at d2 d3;have hst:=hbx2.store 2 (.map (some X1.lb));have hcs:=pz wr ⟨X.d,2,none⟩ (.map (some X1.lb));simp only[Dw.cells,List.set_cons_zero,List.set_cons_succ]at hst;have hdlb:=hD2.apart.d_lb;rw[hxd]at hdlb;have hlast:=tq hD2.lasted hcs (by simpa using hdlb.symm);obtain⟨V,hVe⟩:∃V,V=wr.setCell ⟨X.d,2,none⟩ (.map (some X1.lb)):=⟨_,rfl⟩;rw[←hVe]at hst hcs hlast;have hcl:=AnyW.maps_Clone_owns Tryz.xy3 9 (plainElem (H:=Unit) Tryz.prog 3) X1.lb _ _ V hlast;have c2V:=hst.cell 2;have c3V:=hst.cell 3;have f3V:=hst.free 3;simp only[gE0,gE1]at c2V c3V;rw[hVe]at hcl c2V c3V f3V;have HCL:=Lib.hid hcl;have HVE:=Lib.hid hVe;clear hVe hcl;go_wp2_with fail;refine HCL.out.mono ?_;rintro e w6 ⟨rfl,hn6,hl6,hb6⟩;have hVE:=HVE.out;rw[←hVE]at hn6 hb6 ⊢;clear hVE;have hst6:=hst.below hb6;have hcs6:Chg [X.d] wr w6:=hcs.trans (Chg.of_below hb6 []) (fun g hg=>by cases hg);have e3:=hst6.free 3;have e4:=hst6.free 4;have e6:=hst6.free 6;have e7:=hst6.free 7;have e8:=hst6.free 8;have v3:=hst6.cell 3;have v4:=hst6.cell 4;have v6:=hst6.cell 6;have v7:=hst6.cell 7;have v8:=hst6.cell 8;simp only[gE0,gE1]at v3 v4 v6 v7 v8;have hfin:=((((hst6.store 3 (.map (some V.heap.size))).store 4 (.slice none 0 0)).store 6 (.bool false)).store 7 (.int .i64 0)).store 8 (.int .i64 0);simp only[List.set_cons_zero,List.set_cons_succ]at hfin;clear c2V c3V f3V d2 d3 f2;have hcs7:Chg [X.d] w6 (((((w6.setCell ⟨X.d,3,none⟩ (.map (some V.heap.size))).setCell ⟨X.d,4,none⟩ (.slice none 0 0)).setCell ⟨X.d,6,none⟩ (.bool false)).setCell ⟨X.d,7,none⟩ (.int .i64 0)).setCell ⟨X.d,8,none⟩ (.int .i64 0)):=(((((Chg.refl [X.d] w6).setCell _ (.inl (by simp))).setCell _ (.inl (by simp))).setCell _ (.inl (by simp))).setCell _ (.inl (by simp))).setCell _ (.inl (by simp));obtain⟨w7,hw7⟩:∃w7,w7=(((((w6.setCell ⟨X.d,3,none⟩ (.map (some V.heap.size))).setCell ⟨X.d,4,none⟩ (.slice none 0 0)).setCell ⟨X.d,6,none⟩ (.bool false)).setCell ⟨X.d,7,none⟩ (.int .i64 0)).setCell ⟨X.d,8,none⟩ (.int .i64 0)):=⟨_,rfl⟩;rw[←hw7]at hfin hcs7;have hVsz:wr.heap.size≤V.heap.size:=hcs.size;have hdlt:=hD2.box.lt;rw[hxd]at hdlt;have hdk:=DK.aw5 (b1:=X1.lb) (b2:=V.heap.size) (S':={ S with files:=fs,names:=m,lasted:=m,turns:=[],dead:=false,stop:=0,fail:=0 }) hD2 (by rw[hxd];exact hcs6.trans hcs7 (fun g hg=>.inl hg)) (tq hl6 hcs7 (by simpa using hdlb.symm)) (tq hn6 hcs7 (by simp;omega)) (.inr (.inl rfl)) hVsz (by have:=hD2.lasted.lt;omega) (by rw[hxd];exact hfin) rfl rfl;have hup:Upd X w w7 (S.xk ks):=by
      have e:S.xk ks={ S with files:=fs,names:=m,lasted:=m,turns:=[],dead:=false,stop:=0,fail:=0 }:=by rw[HCR.out,HCF.out,hmf]
      rw[e];refine⟨{ X1 with nb:=X1.lb,lb:=V.heap.size,tv:=.slice none 0 0 },hxd,hdk,hcg2.trans (hcs6.trans hcs7 (fun g hg=>.inl hg)) (fun g hg=>.inl (by rw[List.mem_singleton.1 hg];exact aj.2 (.inl rfl))),fun g hg=>?_⟩
      rcases aj.1 hg with h5|h5|h5|h5|h5|h5
      ·exact .inl (hfX g (aj.2 (.inl h5)))
      ·exact .inl (hfX g (aj.2 (.inr (.inr (.inl h5)))))
      ·right
       have h6:g=V.heap.size:=h5;omega
      ·exact .inl (hfX g (aj.2 (.inr (.inr (.inr (.inl h5))))))
      ·cases h5
      ·exact .inl (hfX g (aj.2 (.inr (.inr (.inr (.inr (.inr h5)))))))
     have HU:=Lib.hid hup;have HW7:=Lib.hid hw7;clear hup hdk hfin hcs7 hw7 hcs6 hst6 hb6 hl6 hn6 hlast hcs hst hbx2 hD2 hmf hdt hcg2 hkp2;go_wp2;refine bodyPost_end (v:=.tuple #[]) (by simp[results,go_sem]) rfl ⟨rfl,?_⟩;have:=HU.out;rw[show w7=_ from HW7.out]at this;exact this
end
section
open Go Go.RowKit Go.Lib Go.Shelf Go.Maps
variable {w w1 w2:World} {m:Nat} {P:Sl} {M:Gs} {xd:Nat}
theorem ex2 {l:List Bool} {i:Nat} (h:l[i]?=some false):(l.set i true).count true=l.count true+1:=by
 induction l generalizing i with
 |nil=>simp at h
 |cons b l ih=>
  cases i with
  |zero=>
   simp at h;subst h;simp
  |succ i=>
   have:=ih (i:=i) (by simpa using h);simp only[List.set_cons_succ,List.count_cons];omega
theorem pq {L:Array Bool} {i j:Nat} (hi:i < L.size):(L.setIfInBounds i true).getD j false=if i=j then true else L.getD j false:=by
 simp only[Array.getD_eq_getD_getElem?,Array.getElem?_setIfInBounds];split
 ·subst_vars
  simp[hi]
 ·rfl
def St.keeps (M:Gs) (s:List UInt8):Bool:=(s==Mw.kCur||s==M.name)||s==Mn.name Mn.kLog M.v.log
def cx5 (L:Array Bool) (nm ln:List UInt8) (Mm:Nm):Prop:=∀s,Mm.get s=if ((L.getD 1 false&&s==Mw.kCur)||(L.getD 4 false&&s==nm))||(L.getD 8 false&&s==ln) then some 1 else none
structure NmJ (w:World) (nm ln:List UInt8) (vb m:Nat) (lg:Int) (L:Array Bool) (u5 u8 u9 u10 u11 u12 u13 u14:Value) (w':World):Prop where
 b:Below w.heap.size w w'
 g0:L.getD 0 false=true→∃b n Mm,u8=.map (some b)∧w.heap.size≤b∧qj w' b n Mm∧n≤L.toList.count true∧cx5 L nm ln Mm
 g1:L.getD 0 false=false→(L.getD 1 false=false∧L.getD 4 false=false∧L.getD 8 false=false)∧L.getD 9 false=false∧L.getD 10 false=false
 g2:L.getD 2 false=true→u9=.pointer (some ⟨m,0,none⟩)
 g3:L.getD 3 false=true→u10=.string (str nm)
 g5:L.getD 5 false=true→u11=.pointer (some ⟨vb,0,none⟩)
 g6:L.getD 6 false=true→u12=.int .i64 lg
 g7:L.getD 7 false=true→u13=.string (str ln)
 g9:L.getD 9 false=true→u14=u8
 g10:L.getD 10 false=true→u5=u8
variable {nm ln:List UInt8} {vb:Nat} {lg:Int} {L:Array Bool} {u5 u8 u9 u10 u11 u12 u13 u14:Value}
theorem NmJ.ak3 (h:NmJ w nm ln vb m lg L u5 u8 u9 u10 u11 u12 u13 u14 w1) {i:Nat} (hi:i < L.size) (h2:L.getD i false=false) (hb:Below w1.heap.size w1 w2) (hn:i≠0∧i≠1∧i≠4∧i≠8) (h9:i=9∨i=10→L.getD 0 false=true) {v5 v9 v10 v11 v12 v13 v14:Value}
  (q2:if i=2 then v9=.pointer (some ⟨m,0,none⟩) else v9=u9) (q3:if i=3 then v10=.string (str nm) else v10=u10) (q5:if i=5 then v11=.pointer (some ⟨vb,0,none⟩) else v11=u11)
  (q6:if i=6 then v12=.int .i64 lg else v12=u12) (q7:if i=7 then v13=.string (str ln) else v13=u13) (q9:if i=9 then v14=u8 else v14=u14) (q10:if i=10 then v5=u8 else v5=u5):
  NmJ w nm ln vb m lg (L.setIfInBounds i true) v5 u8 v9 v10 v11 v12 v13 v14 w2:=by
 have hc:L.toList.count true≤(L.setIfInBounds i true).toList.count true:=by
  have h3:L.toList[i]?=some false:=by
   rw[Array.getD_eq_getD_getElem?,Array.getElem?_eq_getElem hi]at h2;rw[Array.getElem?_toList,Array.getElem?_eq_getElem hi];simpa using h2
  rw[Array.toList_setIfInBounds,ex2 h3];omega
 obtain⟨n0,n1,n4,n8⟩:=hn;refine⟨az h.b hb,fun e=>?_,fun e=>?_,fun e=>?_,fun e=>?_,fun e=>?_,fun e=>?_,fun e=>?_,fun e=>?_,fun e=>?_⟩
 all_goals rw[pq hi]at e
 ·rw[if_neg n0]at e
  obtain⟨b,n,Mm,e1,e2,e3,e4,e5⟩:=h.g0 e;refine⟨b,n,Mm,e1,e2,tq (G:=[]) e3 (Chg.of_below hb []) (by simp),by omega,fun s=>?_⟩;rw[e5 s,pq hi,pq hi,pq hi,if_neg n1,if_neg n4,if_neg n8]
 ·rw[if_neg n0]at e
  have hh:i≠9∧i≠10:=⟨fun e9=>(by rw[h9 (.inl e9)]at e;cases e),fun e9=>(by rw[h9 (.inr e9)]at e;cases e)⟩;rw[pq hi,pq hi,pq hi,pq hi,pq hi,if_neg n1,if_neg n4,if_neg n8,if_neg hh.1,if_neg hh.2];exact h.g1 e
 all_goals
  split at e
  ·subst_vars
   simp
  ·rename_i hne
   first
    |(rw[if_neg hne]at q2;rw[q2];exact h.g2 e)
    |(rw[if_neg hne]at q3;rw[q3];exact h.g3 e)
    |(rw[if_neg hne]at q5;rw[q5];exact h.g5 e)
    |(rw[if_neg hne]at q6;rw[q6];exact h.g6 e)
    |(rw[if_neg hne]at q7;rw[q7];exact h.g7 e)
    |(rw[if_neg hne]at q9;rw[q9];exact h.g9 e)
    |(rw[if_neg hne]at q10;rw[q10];exact h.g10 e)
theorem NmJ.made (h:NmJ w nm ln vb m lg L u5 u8 u9 u10 u11 u12 u13 u14 w1) (hi:0 < L.size) (h2:L.getD 0 false=false) {b:Nat} (hb:w1.heap.size≤b) (hw:Below w1.heap.size w1 w2) (hn:qj w2 b 0 []):
  NmJ w nm ln vb m lg (L.setIfInBounds 0 true) u5 (.map (some b)) u9 u10 u11 u12 u13 u14 w2:=by
 obtain⟨⟨c1,c4,c8⟩,h9,h10⟩:=h.g1 h2;refine⟨az h.b hw,fun _=>⟨b,0,[],rfl,Nat.le_trans h.b.size hb,hn,Nat.zero_le _,fun s=>?_⟩,fun e=>?_,fun e=>?_,fun e=>?_,fun e=>?_,fun e=>?_,fun e=>?_,fun e=>?_,fun e=>?_⟩
 ·rw[pq hi,pq hi,pq hi]
  simp[c1,c4,c8,Nm.get]
 all_goals rw[pq hi]at e
 ·simp at e
 all_goals rw[if_neg (by decide)]at e
 ·exact h.g2 e
 ·exact h.g3 e
 ·exact h.g5 e
 ·exact h.g6 e
 ·exact h.g7 e
 ·rw[h9]at e;cases e
 ·rw[h10]at e;cases e
theorem NmJ.put (h:NmJ w nm ln vb m lg L u5 u8 u9 u10 u11 u12 u13 u14 w1) {i:Nat} (hi:i < L.size) (h2:L.getD i false=false) (h0:L.getD 0 false=true) (s:List UInt8) (hs:(i=1∧s=Mw.kCur)∨(i=4∧s=nm)∨(i=8∧s=ln)) {b n:Nat} {Mm:Nm}
  (hb:w.heap.size≤b) (hu:u8=.map (some b)) (hg:cx5 L nm ln Mm) (hc:n≤L.toList.count true) (ha:Nm.Apart Mm) (c:Chg [b] w1 w2) (hn:qj w2 b (n+1) (Mm.put s 1)):
  NmJ w nm ln vb m lg (L.setIfInBounds i true) u5 u8 u9 u10 u11 u12 u13 u14 w2:=by
 have h3:L.toList[i]?=some false:=by
  rw[Array.getD_eq_getD_getElem?,Array.getElem?_eq_getElem hi]at h2;rw[Array.getElem?_toList,Array.getElem?_eq_getElem hi];simpa using h2
 have hct:(L.setIfInBounds i true).toList.count true=L.toList.count true+1:=by rw[Array.toList_setIfInBounds,ex2 h3]
 refine⟨h.b.trans (c.below h.b.size (by simpa using hb)),fun e=>⟨b,n+1,Mm.put s 1,hu,hb,hn,by omega,fun t=>?_⟩,fun e=>?_,fun e=>?_,fun e=>?_,fun e=>?_,fun e=>?_,fun e=>?_,fun e=>?_,fun e=>?_⟩
 ·by_cases ht:t=s
  ·subst ht
   rw[Nm.zk ha,if_pos];rw[pq hi,pq hi,pq hi]
   rcases hs with ⟨rfl,rfl⟩|⟨rfl,rfl⟩|⟨rfl,rfl⟩ <;>simp
  ·rw[Nm.nz ha ht,hg t,pq hi,pq hi,pq hi]
   rcases hs with ⟨rfl,rfl⟩|⟨rfl,rfl⟩|⟨rfl,rfl⟩ <;>simp[ht,h2]
 all_goals
  rw[pq hi]at e;have hne:∀k,k≠1→k≠4→k≠8→i≠k:=fun k k1 k4 k8=>by omega
  rw[if_neg (hne _ (by decide) (by decide) (by decide))]at e
 ·rw[h0]at e;cases e
 ·exact h.g2 e
 ·exact h.g3 e
 ·exact h.g5 e
 ·exact h.g6 e
 ·exact h.g7 e
 ·exact h.g9 e
 ·exact h.g10 e
theorem zv1 {b n:Nat} {Mm:Nm} (h:qj w b n Mm) (hn:n < maxLen) (s:List UInt8) (hs:s.length≤maxLen) (k:Nat) (hk:k≤9223372036854775807):∃w',(Instr.mapUpdate 90 (.map (some b)) (.string (str s)) (.int .i64 (k:Int))).run Tryz.prog w=.ok () w'∧qj w' b (n+1) (Mm.put s k)∧Chg [b] w w':=by
 have hka:keyOf Tryz.prog 9 (.string (str s))=some (.string s):=by rw[pv3 (by rw[qx];exact hs),rq]
 have hwf:(Lit.int .i64 (k:Int)).wf=true:=WalkArith.wf_i64 (by omega);obtain⟨w',hrun,r1,r2⟩:=World.ownsMap.update h jj1 Tryz.underlying90 hn hka (plainElem_int Tryz.underlying3 hwf);rw[Nm.mq2]at r1;exact⟨w',hrun,r1,Chg.uy r2 (fun b hb=>by cases hb;simp)⟩
theorem ej3 (n:Int):(Mn.name Mn.kLog n).length≤1000:=by
 by_cases h:(Mn.fits n&&Mn.isKind Mn.kLog)=true
 ·have:=dw1 (Mn.gz2 h)
  omega
 ·unfold Mn.name
  rw[if_neg h];simp
def vq2 (w:World) (M:Gs) (e:Ending) (w':World):Prop:=∃b n Mm,e=.returned (.map (some b))∧qj w' b n Mm∧w.heap.size≤b∧(∀s,Mm.get s=if St.keeps M s=true then some 1 else none)∧Below w.heap.size w w'
theorem jw3 {f c a l:Nat} (A:Option Addr) (cp:Nat) (hlg:0≤M.v.log∧M.v.log≤1073741824) (he:Env w) (hk:GK w m xd M P) (hnl:M.name.length≤1000):
  Calls Tryz.prog 180 #[.agg #[.int .i64 M.v.log,.slice A 0 cp,.int .u64 (f:Int),.int .u64 (c:Int),.int .u64 (a:Int),.int .u64 (l:Int)],.pointer (some ⟨m,0,none⟩)] w (vq2 w M):=by
 have hmm:=@run_makeMap Tryz.prog;have hb0:=(Below.refl w.heap.size w).alloc (Nat.le_refl _) (.cells #[.int .i64 M.v.log,.slice A 0 cp,.int .u64 (f:Int),.int .u64 (c:Int),.int .u64 (a:Int),.int .u64 (l:Int)] 86);have hvb:=BoxO.new w #[.int .i64 M.v.log,.slice A 0 cp,.int .u64 (f:Int),.int .u64 (c:Int),.int .u64 (a:Int),.int .u64 (l:Int)] 86;have hmn:∀W,Below w.heap.size w W→Calls Tryz.prog 254 #[.pointer (some ⟨m,0,none⟩)] W fun e w'=>e=.returned (.string (str M.name))∧W=w':=fun W hb=>nj3 xd (hk.below hb);have hln:∀W,Below w.heap.size w W→Calls Tryz.prog 83 #[.string { data:=#[108,111,103] },.int .i64 M.v.log] W fun e w'=>e=.returned (.string (str (Mn.name Mn.kLog M.v.log)))∧Below W.heap.size W w':=fun W hb=>name_any (str Mn.kLog) (by decide) M.v.log (by omega) W (he.below hb);have HMN:=Lib.hid hmn;have HLN:=Lib.hid hln;have HVB:=Lib.hid hvb;have HB0:=Lib.hid hb0;have HNL:Hid (M.name.length≤maxLen):=Lib.hid (by unfold maxLen;omega);have HLL:Hid ((Mn.name Mn.kLog M.v.log).length≤maxLen):=Lib.hid (by have:=ej3 M.v.log;unfold maxLen;omega);clear hmn hln hvb hb0 he hk hlg hnl;go_enter Tryz.func180,Tryz.ntmps180;go_upto_region 1 with (fail)
 go_cut [5] from 8 (fun s w'=>∃b n Mm,s=.map (some b)∧qj w' b n Mm∧w.heap.size≤b∧(∀s,Mm.get s=if St.keeps M s=true then some 1 else none)∧Below w.heap.size w w'∧BoxO w' 86 w.heap.size [.int .i64 M.v.log,.slice A 0 cp,.int .u64 (f:Int),.int .u64 (c:Int),.int .u64 (a:Int),.int .u64 (l:Int)])
 case first=>
  rename_i JJ KK hJ hK;have HK:=Lib.hid (And.intro hJ hK);clear hJ hK;generalize hW:w.alloc (.cells #[.int .i64 M.v.log,.slice A 0 cp,.int .u64 (f:Int),.int .u64 (c:Int),.int .u64 (a:Int),.int .u64 (l:Int)] 86)=W at *;refine iy2 (by kernel_rfl) (fun L ac w'=>∃u5 u8 u9 u10 u11 u12 u13 u14,ac=⟨#[.agg #[.int .i64 M.v.log,.slice A 0 cp,.int .u64 (f:Int),.int .u64 (c:Int),.int .u64 (a:Int),.int .u64 (l:Int)],.pointer (some ⟨m,0,none⟩),.pointer (some ⟨w.heap.size,0,none⟩),undef,.map none,u5,undef,undef,u8,u9,u10,u11,u12,u13,u14,undef,undef,undef,undef,undef,undef,undef,undef,undef,undef,undef,undef,undef,undef,undef],[]⟩∧NmJ W M.name (Mn.name Mn.kLog M.v.log) w.heap.size m M.v.log L u5 u8 u9 u10 u11 u12 u13 u14 w') ?_ ?_ ?_
  ·refine⟨_,_,_,_,_,_,_,_,rfl,(Below.refl _ _).drew,?_,?_,?_,?_,?_,?_,?_,?_,?_⟩
   all_goals simp
  ·rintro L ac w1 i hz ⟨u5,u8,u9,u10,u11,u12,u13,u14,rfl,hj⟩ hr
   obtain⟨hi,h2,h3⟩:=oj1.1 hr;replace hi:i < 11:=hi;replace hz:L.size=11:=hz;have h2f:L.getD i false=false:=by
    have hi':i < L.size:=by omega
    rw[Array.getD_eq_getD_getElem?,Array.getElem?_eq_getElem hi']at h2 ⊢;simpa using h2
   have hcnt:L.toList.count true≤11:=by
    have h4:=List.count_le_length (a:=true) (l:=L.toList);rw[Array.length_toList]at h4;omega
   have HR:=Lib.hid (And.intro hz h2f);have HC:=Lib.hid (show L.toList.count true≤11 from hcnt);have HJ:=Lib.hid hj;clear hr h2 h2f hz hj hcnt;have hi:i=0∨i=1∨i=2∨i=3∨i=4∨i=5∨i=6∨i=7∨i=8∨i=9∨i=10:=by omega
   rcases hi with rfl|rfl|rfl|rfl|rfl|rfl|rfl|rfl|rfl|rfl|rfl
   all_goals
    simp[Region.binds]at h3;refine wpOp_step rfl (fun K' hK'=>?_);have HK':=Lib.hid hK';clear hK'
   case inl=>
    go_simp;exact HK'.out _ _ ⟨_,_,_,_,_,_,_,_,rfl,HJ.out.made (by rw[HR.out.1];omega) HR.out.2 (Nat.le_refl _) ((Below.refl _ _).alloc (Nat.le_refl _) _) (rw1 (heap_alloc_new _ _))⟩
   all_goals try simp only[←Array.getD_eq_getD_getElem?]at h3
   case inr.inl=>
    obtain⟨b,n,Mm,rfl,hb,hn,hc,hg⟩:=HJ.out.g0 h3;obtain⟨w2,hrun,hn2,hc2⟩:=zv1 hn (by have:=HC.out;unfold maxLen;omega) Mw.kCur (by decide) 1 (by omega);have hrun2:(Instr.mapUpdate 90 (.map (some b)) (.string { data:=#[99,117,114,114,101,110,116] }) (.int .i64 1)).run Tryz.prog w1=.ok () w2:=hrun;have HZ:=Lib.hid (HJ.out.put (by rw[HR.out.1];omega) HR.out.2 h3 Mw.kCur (.inl ⟨rfl,rfl⟩) hb rfl hg hc (iz1 hn) hc2 hn2);clear hn2 hc2 hrun;go_simp;exact HK'.out _ _ ⟨_,_,_,_,_,_,_,_,rfl,HZ.out⟩
   case inr.inr.inl=>
    go_simp;exact HK'.out _ _ ⟨_,_,_,_,_,_,_,_,rfl,HJ.out.ak3 (by rw[HR.out.1];omega) HR.out.2 (Below.refl _ _) (by decide) (fun e=>by omega) rfl rfl rfl rfl rfl rfl rfl⟩
   case inr.inr.inr.inl=>
    obtain rfl:=HJ.out.g2 h3;have HM:=Lib.hid (HMN.out w1 (HB0.out.trans (HJ.out.b.mono HB0.out.size)));go_simp;refine HM.out.mono ?_;rintro e w2 ⟨rfl,rfl⟩;go_simp;exact HK'.out _ _ ⟨_,_,_,_,_,_,_,_,rfl,HJ.out.ak3 (by rw[HR.out.1];omega) HR.out.2 (Below.refl _ _) (by decide) (fun e=>by omega) rfl rfl rfl rfl rfl rfl rfl⟩
   case inr.inr.inr.inr.inl=>
    obtain rfl:=HJ.out.g3 h3.2;obtain⟨b,n,Mm,rfl,hb,hn,hc,hg⟩:=HJ.out.g0 h3.1;obtain⟨w2,hrun,hn2,hc2⟩:=zv1 hn (by have:=HC.out;unfold maxLen;omega) M.name HNL.out 1 (by omega);have hrun2:(Instr.mapUpdate 90 (.map (some b)) (.string (str M.name)) (.int .i64 1)).run Tryz.prog w1=.ok () w2:=hrun;have HZ:=Lib.hid (HJ.out.put (by rw[HR.out.1];omega) HR.out.2 h3.1 M.name (.inr (.inl ⟨rfl,rfl⟩)) hb rfl hg hc (iz1 hn) hc2 hn2);clear hn2 hc2 hrun;go_simp;exact HK'.out _ _ ⟨_,_,_,_,_,_,_,_,rfl,HZ.out⟩
   case inr.inr.inr.inr.inr.inl=>
    go_simp;exact HK'.out _ _ ⟨_,_,_,_,_,_,_,_,rfl,HJ.out.ak3 (by rw[HR.out.1];omega) HR.out.2 (Below.refl _ _) (by decide) (fun e=>by omega) rfl rfl rfl rfl rfl rfl rfl⟩
   case inr.inr.inr.inr.inr.inr.inl=>
    obtain rfl:=HJ.out.g5 h3;have v0:=(HVB.out.below HJ.out.b).cell 0;simp only[gE0]at v0;go_simp;exact HK'.out _ _ ⟨_,_,_,_,_,_,_,_,rfl,HJ.out.ak3 (by rw[HR.out.1];omega) HR.out.2 (Below.refl _ _) (by decide) (fun e=>by omega) rfl rfl rfl rfl rfl rfl rfl⟩
   case inr.inr.inr.inr.inr.inr.inr.inl=>
    obtain rfl:=HJ.out.g6 h3.1;have HM:=Lib.hid (HLN.out w1 (HB0.out.trans (HJ.out.b.mono HB0.out.size)));go_simp;refine HM.out.mono ?_;rintro e w2 ⟨rfl,hb2⟩;go_simp;exact HK'.out _ _ ⟨_,_,_,_,_,_,_,_,rfl,HJ.out.ak3 (by rw[HR.out.1];omega) HR.out.2 hb2 (by decide) (fun e=>by omega) rfl rfl rfl rfl rfl rfl rfl⟩
   case inr.inr.inr.inr.inr.inr.inr.inr.inl=>
    obtain rfl:=HJ.out.g7 h3.2;obtain⟨b,n,Mm,rfl,hb,hn,hc,hg⟩:=HJ.out.g0 h3.1;obtain⟨w2,hrun,hn2,hc2⟩:=zv1 hn (by have:=HC.out;unfold maxLen;omega) (Mn.name Mn.kLog M.v.log) HLL.out 1 (by omega);have hrun2:(Instr.mapUpdate 90 (.map (some b)) (.string (str (Mn.name Mn.kLog M.v.log))) (.int .i64 1)).run Tryz.prog w1=.ok () w2:=hrun;have HZ:=Lib.hid (HJ.out.put (by rw[HR.out.1];omega) HR.out.2 h3.1 (Mn.name Mn.kLog M.v.log) (.inr (.inr ⟨rfl,rfl⟩)) hb rfl hg hc (iz1 hn) hc2 hn2);clear hn2 hc2 hrun;go_simp;exact HK'.out _ _ ⟨_,_,_,_,_,_,_,_,rfl,HZ.out⟩
   case inr.inr.inr.inr.inr.inr.inr.inr.inr.inl=>
    go_simp;exact HK'.out _ _ ⟨_,_,_,_,_,_,_,_,rfl,HJ.out.ak3 (by rw[HR.out.1];omega) HR.out.2 (Below.refl _ _) (by decide) (fun e=>h3.1) rfl rfl rfl rfl rfl rfl rfl⟩
   case inr.inr.inr.inr.inr.inr.inr.inr.inr.inr=>
    obtain rfl:=HJ.out.g9 h3.1;go_simp;exact HK'.out _ _ ⟨_,_,_,_,_,_,_,_,rfl,HJ.out.ak3 (by rw[HR.out.1];omega) HR.out.2 (Below.refl _ _) (by decide) (fun e=>h3.2.2.1) rfl rfl rfl rfl rfl rfl rfl⟩
  ·rintro L ac w1 hz ⟨u5,u8,u9,u10,u11,u12,u13,u14,rfl,hj⟩ hr
   have ha:=eq2 (by kernel_rfl) hz hr 11;have a0:L.getD 0 false=true:=ha 0 (by decide) (by decide);have a1:L.getD 1 false=true:=ha 1 (by decide) (by decide);have a4:L.getD 4 false=true:=ha 4 (by decide) (by decide);have a8:L.getD 8 false=true:=ha 8 (by decide) (by decide);obtain rfl:=hj.g10 (ha 10 (by decide) (by decide));obtain⟨b,n,Mm,rfl,hb,hn,hc,hg⟩:=hj.g0 a0;have hfin:∀s,Mm.get s=if St.keeps M s=true then some 1 else none:=fun s=>by
    rw[hg s,a1,a4,a8];simp only[Bool.true_and];rfl
   have h1:=HB0.out.trans (hj.b.mono HB0.out.size);exact HK.out.2 _ _ (Met.intro (HK.out.1 _ _ ⟨_,_,_,_,_,_,_,_,_,_,_,_,_,_,_,_,_,_,_,_,_,_,_,⟨b,n,Mm,rfl,hn,Nat.le_trans HB0.out.size hb,hfin,h1,HVB.out.below hj.b⟩,rfl⟩))
 case rest=>
  obtain⟨b,n,Mm,rfl,hn,hb,hg,hbl,hx⟩:=hcut;have c1:=hx.cell 1;simp only[gE0,gE1]at c1;have HZ:=Lib.hid (And.intro hn (And.intro hb (And.intro hg hbl)));clear hn hb hg hbl hx HMN HLN HVB HB0 HNL HLL;go_wp2
  go_loopw [18] (fun i wr=>i=.int .i64 0∧wr=wc) (fun _ _=>0)
  case atStart=>exact⟨rfl,rfl⟩
  case round=>
   obtain⟨rfl,rfl⟩:=hrel;go_wp2;go_ret;exact⟨b,n,Mm,rfl,HZ.out⟩
end
section
open Go Go.RowKit Go.Lib Go.Shelf Go.Maps
variable {w w1 w2:World} {X X1 X2:Dw} {S S1 S2:Sd} {Y Y1 Y2:Yw} {V V1 V2:Sv}
def St.sweep (M:Gs):List (List UInt8)→Sd→Sd
 |[],S=>S
 |s::r,S=>if (St.aq1 s&&!St.keeps M s)=true then St.sweep M r (S.remove s).1 else St.sweep M r S
theorem ox4 (m:Nm) (s:List UInt8) (z:DataW Unit) (h:m.get s=none):(Nm.enc m).atKey (.string s) z=z:=by
 unfold Nm.enc DataW.atKey;simp only;rw[Nm.kq2];unfold Nm.get at h
 cases hf:m.find? (fun p=>p.1==s) with
 |none=>rfl
 |some p=>rw[hf]at h;cases h
def qz4 (X:Dw) (Y:Yw) (V:Sv) (w:World) (S1:Sd) (e:Ending) (w1:World):Prop:=e=.returned (.tuple #[])∧∃X1,X1.d=X.d∧SvAt w1 X1 S1 Y V∧Chg (XY X Y) w w1∧(∀g∈XY X1 Y,g∈XY X Y∨w.heap.size≤g)
theorem pq3 (h:SvAt w X S Y V) (hf:V.M.v.files=[]) (hlg:0≤V.M.v.log∧V.M.v.log≤1073741824) (hld:S.load≤1000000) (hml:V.M.name.length≤1000):
  Calls Tryz.prog 94 #[.pointer (some ⟨Y.s,0,none⟩)] w (qz4 X Y V w (St.sweep V.M S.list S)):=by
 have hpn:Y.P.n=0:=by rw[h.plen,hf];rfl
 have hvw:∀W,Below w.heap.size w W→Calls Tryz.prog 81 #[.pointer (some ⟨Y.m,0,none⟩)] W fun e w'=>∃A c,e=.returned (.agg #[.int .i64 V.M.v.log,.slice A 0 c,.int .u64 (V.M.v.floor:Int),.int .u64 (V.M.v.cert:Int),.int .u64 (V.M.v.at_:Int),.int .u64 (V.M.v.lease:Int)])∧Below W.heap.size W w':=fun W hb=>by
  have hh:=h.below hb;refine(rv1 X.d hh.man hh.row.row (by rw[hpn];omega)).mono ?_;rintro e w' ⟨A,c,rfl,_,hb2⟩;rw[hpn];exact⟨A,c,rfl,hb2⟩
 have hnm:∀W A c,Below w.heap.size w W→Calls Tryz.prog 180 #[.agg #[.int .i64 V.M.v.log,.slice A 0 c,.int .u64 (V.M.v.floor:Int),.int .u64 (V.M.v.cert:Int),.int .u64 (V.M.v.at_:Int),.int .u64 (V.M.v.lease:Int)],.pointer (some ⟨Y.m,0,none⟩)] W (vq2 W V.M):=fun W A c hb=>jw3 A c hlg (h.dm.env.below hb) (h.below hb).man hml;have hxb:∀W,Below w.heap.size w W→BoxO W 153 Y.s (Y.cells X.d V):=fun W hb=>(h.below hb).box;have HVW:=Lib.hid hvw;have HNM:=Lib.hid hnm;have HXB:=Lib.hid hxb;have HH:=Lib.hid h;have HLD:=Lib.hid hld;clear hvw hnm hxb h hf hlg hpn hld hml;go_enter Tryz.func94,Tryz.ntmps94;go_upto_region 0 with (fail)
 refine wp_region_held_drew (S:=fun w'=>Below w.heap.size w w') rfl (ak (Below.refl _ _)) (fun hSw=>?_);refine wpT (i:=0) (v:=?vhsw0) ?hhsw0 hSw ?khsw0
 case hhsw0=>(intro w hSw;(have x:=HXB.out _ hSw;have y1:=x.cell 1;simp only[Yw.cells,gE0,gE1]at y1);go_simp;try (with_reducible rfl))
 go_simp;refine wpT (i:=1) (v:=?vhsw1) ?hhsw1 hSw ?khsw1
 case hhsw1=>(intro w hSw;(have x:=HXB.out _ hSw;have y1:=x.cell 1;simp only[Yw.cells,gE0,gE1]at y1);go_simp;try (with_reducible rfl))
 go_simp;refine wpT (i:=2) (v:=?vhsw2) ?hhsw2 hSw ?khsw2
 case hhsw2=>(intro w hSw;(have x:=HXB.out _ hSw;have y1:=x.cell 1;simp only[Yw.cells,gE0,gE1]at y1);go_simp;try (with_reducible rfl))
 go_simp;refine wpT (i:=3) (v:=?vhsw3) ?hhsw3 hSw ?khsw3
 case hhsw3=>(intro w hSw;(have x:=HXB.out _ hSw;have y1:=x.cell 1;simp only[Yw.cells,gE0,gE1]at y1);go_simp;try (with_reducible rfl))
 go_simp;refine wpT (i:=5) (v:=?vhsw5) ?hhsw5 hSw ?khsw5
 case hhsw5=>(intro w hSw;(have x:=HXB.out _ hSw;have y1:=x.cell 1;simp only[Yw.cells,gE0,gE1]at y1);go_simp;try (with_reducible rfl))
 go_simp;refine wpT (i:=6) (v:=?vhsw6) ?hhsw6 hSw ?khsw6
 case hhsw6=>(intro w hSw;(have x:=HXB.out _ hSw;have y1:=x.cell 1;simp only[Yw.cells,gE0,gE1]at y1);go_simp;try (with_reducible rfl))
 go_simp;refine wpT (i:=7) (v:=?vhsw7) ?hhsw7 hSw ?khsw7
 case hhsw7=>(intro w hSw;(have x:=HXB.out _ hSw;have y1:=x.cell 1;simp only[Yw.cells,gE0,gE1]at y1);go_simp;try (with_reducible rfl))
 go_simp;refine wpT (i:=8) (v:=?vhsw8) ?hhsw8 hSw ?khsw8
 case hhsw8=>(intro w hSw;(have x:=HXB.out _ hSw;have y1:=x.cell 1;simp only[Yw.cells,gE0,gE1]at y1);go_simp;try (with_reducible rfl))
 go_simp;refine wpAnyH_ready (rs:=[4]) (by kernel_rfl) (by simp) ?_;refine AllReadyH.cons rfl (fun K hK=>?_) AllReadyH.nil;go_simp
 with_reducible refine(HVW.out _ hSw).mono ?_
 rintro e w3 ⟨A,c,rfl,hb3⟩;go_simp;refine hK.out _ _ (az hSw hb3) (fun hSn=>?_);clear hK K hSw;have hSw:=hSn;clear hSn;go_simp;refine wpAnyH_ready (rs:=[9]) (by kernel_rfl) (by simp) ?_;refine AllReadyH.cons rfl (fun K hK=>?_) AllReadyH.nil;go_simp
 with_reducible refine(HNM.out _ A c hSw).mono ?_
 rintro e w4 ⟨b,n4,Mm,rfl,hn4,hbs4,hget4,hb4⟩;go_simp;refine hK.out _ _ (az hSw hb4) (fun hSn=>?_);clear hK K hSw;have hSw:=hSn;clear hSn;go_simp;refine wpT (i:=10) (v:=?vhsw10) ?hhsw10 hSw ?khsw10
 case hhsw10=>(intro w hSw;(have x:=HXB.out _ hSw;have y1:=x.cell 1;simp only[Yw.cells,gE0,gE1]at y1);go_simp;try (with_reducible rfl))
 go_simp;refine wpAnyH_done (by kernel_rfl) ?_ _;have hb4w:Below w.heap.size w w4:=hSw;have hs3:=(az (ak (Below.refl w.heap.size w)) hb3).size;clear hSw hb4 hb3 HVW HNM;have h4:=HH.out.below hb4w;have x0:=h4.box.cell 0;simp only[Yw.cells,gE0]at x0;have hls:=(Acc.start (F:=[]) h4.dm).list;have hnl:=oz1 h4.dm.wf;have hnm:=lv1 h4.dm.wf;obtain⟨Ls,hLs⟩:∃Ls,Ls=S.list:=⟨_,rfl⟩;rw[←hLs]at hls hnl hnm;have HLs:=Lib.hid hLs;have HLS:=Lib.hid hls;have H4:=Lib.hid h4;have HNM:=Lib.hid hnm;have HMM:=Lib.hid (And.intro hn4 (And.intro hbs4 hget4));have HB4:=Lib.hid hb4w;clear hls h4 hnm hn4 hget4 hb4w hLs;go_wp2_with fail
 with_reducible refine HLS.out.mono ?_
 rintro e w5 ⟨A5,c5,rfl,ho5,hb5⟩;have hrow:=Row.own ho5;have hlow:∀a,A5=some a→w4.heap.size≤a.block:=fun a ha=>(ho5.lt a.block (by rw[ha];rfl)).1;have h5:=H4.out.below hb5;have hn5:=tq (G:=[]) HMM.out.1 (Chg.of_below hb5 []) (by simp);obtain⟨n,hn⟩:∃n,n=Ls.length:=⟨_,rfl⟩;rw[←hn]at hrow hnl;rw[←hn];have HROW:=Lib.hid (And.intro hrow hlow);have HN:=Lib.hid hn;have HN5:=Lib.hid hn5;have H5:=Lib.hid h5;have HB5:=Lib.hid (az HB4.out hb5);have hb4lt:b < w5.heap.size:=hn5.lt;clear ho5 hrow hlow hn hn5 h5 HLS x0;have hbX:b∉X.foot:=fun hm=>by have:=HH.out.dm.dk.lt b hm;omega
 have HBX:=Lib.hid hbX;have hl4:=HB4.out.size;have hl5:=hb5.size;clear hbX hb5;go_wp2
 go_loopw [21] (fun i wr=>∃(k:Nat) (Sk:Sd) (Xk:Dw),k≤n∧i=.int .i64 (k:Int)∧Hid (Acc [] X w5 Sk wr Xk∧St.sweep V.M (Ls.drop k) Sk=St.sweep V.M Ls S∧Sk.load≤S.load+k)) (fun i _=>n - (intOf i).toNat)
 case atStart=>exact⟨0,S,X,Nat.zero_le _,rfl,Lib.hid ⟨Acc.start H5.out.dm,rfl,Nat.le_refl _⟩⟩
 case round=>
  obtain⟨k,Sk,Xk,hk,rfl,HI⟩:=hrel;have hacc:=HI.out.1;have hsk:=H5.out.disk hacc.updM;have hcX:Chg X.foot w5 wr:=by simpa using hacc.c
  by_cases hlt:k < n
  ·have hrk:=(yj hcX HROW.out.1 (Nat.le_refl _) (fun j _ a ha hm=>by have:=HROW.out.2 a ha;have:=HH.out.dm.dk.lt _ hm;omega)).up hcX.size
   obtain⟨p,hl,rfl,hbk,c0⟩:=hrk.enc hlt;have hdrop:Ls.drop k=Ls[k]::Ls.drop (k+1):=List.drop_eq_getElem_cons hl;have hsw:=HI.out.2.1;rw[hdrop]at hsw;have hio:=bx2 Ls[k] (by have:=dw1 (HNM.out _ (List.getElem_mem hl));omega) wr hacc.dm.env;have hsl:=dw1 (HNM.out _ (List.getElem_mem hl));generalize Ls[k]=s at *;have hnk:=tq HN5.out hcX HBX.out;obtain⟨Xk1,q1,q2,q3,q4⟩:=hsk;have y0:=q2.box.cell 0;simp only[Yw.cells,gE0]at y0;rw[q1]at y0;have hrm:=fun W (hb:Below wr.heap.size wr W)=>(hacc.below hb).remove (str s) (by rw[qx];unfold maxLen;omega) (by have:=HI.out.2.2;have:=HLD.out;omega);rw[rq]at hrm;have hlk:=HMM.out.2.2 s;have hsz:s.length≤maxLen:=by unfold maxLen;omega
   have HC:=Lib.hid (And.intro hacc (And.intro hsw HI.out.2.2));have HRM:=Lib.hid hrm;have HIO:=Lib.hid hio;have HNK:=Lib.hid (And.intro hnk (And.intro hlk hsz));clear hacc hsw hrm hio hnk hlk hsz HI hrk hdrop hsl q1 q2 q3 q4 hcX hl;obtain⟨ow,how⟩:∃ow,ow=St.aq1 s:=⟨_,rfl⟩;obtain⟨kp,hkp⟩:∃kp,kp=St.keeps V.M s:=⟨_,rfl⟩;rw[←how]at HIO;have HOK:=Lib.hid (And.intro how hkp);clear how hkp
   cases ow with
   |false=>
    go_wp2_with fail
    with_reducible refine HIO.out.mono ?_
    rintro e w6 ⟨rfl,hb6⟩;have HZ:Hid (Acc [] X w5 Sk w6 Xk∧St.sweep V.M (Ls.drop (k+1)) Sk=St.sweep V.M Ls S∧Sk.load≤S.load+(k+1)):=Lib.hid (by
     obtain⟨z1,z2,z3⟩:=HC.out;refine⟨z1.below hb6,?_,by omega⟩;rw[←z2,St.sweep,←HOK.out.1];simp)
    clear hb6 HC HRM HIO HNK HOK;go_wp2;go_roundw
    case rel=>exact⟨k+1,Sk,Xk,by omega,by go_num,HZ⟩
    case measure=>simp[intOf];omega
   |true=>
    have hrun:∀W,Below wr.heap.size wr W→(Instr.lookup 90 (.map (some b)) (.string (str s)) false).run Tryz.prog W=.ok (.int .i64 (if kp=true then 1 else 0)) W:=fun W hb=>by
     have hn6:=tq (G:=[]) HNK.out.1 (Chg.of_below hb []) (by simp);obtain⟨c,hr,hat,_⟩:=World.ownsMap.lookup_int (H:=Unit) hn6 jj1 Tryz.underlying90 Tryz.underlying3 (zj1 _) (key:=.string (str s)) (kl:=.string s) (by rw[pv3 (by rw[qx];exact HNK.out.2.2),rq]);rw[hr];have hg:=HNK.out.2.1;rw[←HOK.out.2]at hg
     cases kp with
     |true=>
      rw[Nm.ox2 Mm s _ (i:=1) (by simpa using hg)]at hat;injection hat with hat;injection hat with _ hat;rw[←hat];rfl
     |false=>
      rw[ox4 Mm s _ (by simpa using hg)]at hat;injection hat with hat;injection hat with _ hat;rw[←hat];rfl
    have HRUN:=Lib.hid hrun;clear hrun
    cases kp with
    |true=>
     go_wp2_with fail
     with_reducible refine HIO.out.mono ?_
     rintro e w6 ⟨rfl,hb6⟩;have hr6:=HRUN.out w6 hb6;simp only[if_true]at hr6;have HZ:Hid (Acc [] X w5 Sk w6 Xk∧St.sweep V.M (Ls.drop (k+1)) Sk=St.sweep V.M Ls S∧Sk.load≤S.load+(k+1)):=Lib.hid (by
      obtain⟨z1,z2,z3⟩:=HC.out;refine⟨z1.below hb6,?_,by omega⟩;rw[←z2,St.sweep,←HOK.out.1,←HOK.out.2];simp)
     clear hb6 HC HRM HIO HNK HOK HRUN;go_wp2;go_roundw
     case rel=>exact⟨k+1,Sk,Xk,by omega,by go_num,HZ⟩
     case measure=>simp[intOf];omega
    |false=>
     go_wp2_with fail
     with_reducible refine HIO.out.mono ?_
     rintro e w6 ⟨rfl,hb6⟩;have hr6:=HRUN.out w6 hb6;simp only[Bool.false_eq_true,if_false]at hr6;have y6:=(hb6.cell (p:=⟨Y.s,0,none⟩) (World.block_lt_of_cell? wr _ y0)).trans y0;have HRM6:=Lib.hid (HRM.out w6 hb6);clear hb6 y0 HRM HIO HNK HRUN;go_wp2_with fail
     with_reducible refine HRM6.out.mono ?_
     rintro e w7 ⟨rfl,Xk2,h7⟩;have HZ:Hid (Acc [] X w5 (Sk.remove s).1 w7 Xk2∧St.sweep V.M (Ls.drop (k+1)) (Sk.remove s).1=St.sweep V.M Ls S∧(Sk.remove s).1.load≤S.load+(k+1)):=Lib.hid (by
      obtain⟨z1,z2,z3⟩:=HC.out;refine⟨h7,?_,by have:=Sd.dj1 Sk s;omega⟩;rw[←z2,St.sweep,←HOK.out.1,←HOK.out.2];simp)
     clear h7 HC HOK HRM6;go_wp2;go_roundw
     case rel=>exact⟨k+1,_,Xk2,by omega,by go_num,HZ⟩
     case measure=>simp[intOf];omega
  ·obtain rfl:k=n:=by omega
   obtain⟨z1,z2,z3⟩:=HI.out;rw[HN.out,List.drop_length]at z2;obtain⟨X1,q1,q2,q3,q4⟩:=hsk;have hfin:qz4 X Y V w (St.sweep V.M S.list S) (.returned (.tuple #[])) wr:=by
    rw[←HLs.out,←z2];exact⟨rfl,X1,q1,q2,(Chg.of_below HB5.out (XY X Y)).trans q3 (fun g hg=>.inl hg),fun g hg=>(q4 g hg).imp id (Nat.le_trans HB5.out.size)⟩
   have HF:=Lib.hid hfin;clear hfin q1 q2 q3 q4 z1 z2 z3 HI hcX;go_wp2;exact bodyPost_end (v:=.tuple #[]) (by simp[results,go_sem]) rfl HF.out
end
section
open Go Go.RowKit Go.Lib Go.Shelf
theorem ij4 (w:World):Calls Tryz.prog 86 #[.slice none 0 0] w fun e w'=>e=.returned (.slice none 0 0)∧w'=w:=by
 go_enter Tryz.func86,Tryz.ntmps86;go_wp2
 go_loopw [3,8] (fun o i wr=>o=.slice none 0 0∧i=.int .i64 0∧wr=w) (fun _ _ _=>0)
 case atStart=>exact⟨rfl,rfl,rfl⟩
 case round=>
  obtain⟨rfl,rfl,rfl⟩:=hrel;go_wp2;go_ret;exact⟨rfl,rfl⟩
theorem ny3 (w:World):Calls Tryz.prog 162 #[.slice none 0 0] w fun e w'=>e=.returned (.slice none 0 0)∧w'=w:=by
 have hnil:∀W,(binOp .eql 44 (.slice none 0 0) (.slice none 0 0)).run Tryz.prog W=.ok (.bool true) W:=fun W=>by kernel_rfl
 go_enter Tryz.func162,Tryz.ntmps162;go_wp2;go_ret;exact⟨rfl,rfl⟩
theorem uv3 (w:World):Calls Tryz.prog 85 #[.slice none 0 0] w fun e w'=>e=.returned (.slice none 0 0)∧w'=w:=by
 have HC:=Lib.hid (ny3 w);have HK:=Lib.hid (zy1 none 0 0 w (Nat.le_refl _));go_enter Tryz.func85,Tryz.ntmps85;go_wp2_with fail;refine HC.out.mono ?_;rintro e w1 ⟨rfl,rfl⟩;go_wp2
 go_loopw [3] (fun o wr=>o=.slice none 0 0∧wr=w1) (fun _ _=>0)
 case atStart=>exact⟨rfl,rfl⟩
 case round=>
  obtain⟨rfl,rfl⟩:=hrel;go_wp2
  go_loopw [5,14] (fun a i wq=>a=.int .i64 (-1)∧i=.int .i64 0∧wq=wr) (fun _ _ _=>0)
  case atStart=>exact⟨rfl,rfl,rfl⟩
  case round=>
   obtain⟨rfl,rfl,rfl⟩:=hrel;go_wp2_with fail;refine HK.out.mono ?_;rintro e w2 ⟨rfl,rfl⟩;go_wp2;go_ret;exact⟨rfl,rfl⟩
theorem pz3 (s:Nat) (lg f c a l:Value) (A:Option Addr) (cp:Nat) (w:World):
  Calls Tryz.prog 84 #[.pointer (some ⟨s,0,none⟩),.agg #[lg,.slice A 0 cp,f,c,a,l]] w fun e w'=>e=.returned (.bool true)∧Below w.heap.size w w':=by
 have hb:=(Below.refl w.heap.size w).alloc (Nat.le_refl _) (.cells #[lg,.slice A 0 cp,f,c,a,l] 86);go_enter Tryz.func84,Tryz.ntmps84;go_wp2
 go_loopw [13] (fun i wr=>i=.int .i64 0∧Below w.heap.size w wr) (fun _ _=>0)
 case atStart=>exact⟨rfl,hb⟩
 case round=>
  obtain⟨rfl,hb2⟩:=hrel;go_wp2;go_ret;exact⟨rfl,hb2⟩
end
end Go.Proofs.YthjdpplgfdihoaaGreatDoor
