/- Texts EditI, Del, PlainTable, Unlist, EditE, SkipC, RefI, SkipE in one. No conditions. -/
import Derived.Test.YthjdpplgfdihoaaGreatDoorBunAF
import Derived.Test.YthjdpplgfdihoaaGreatDoorBunAG
import Derived.Deep.CutBlock

set_option linter.unusedSimpArgs false
set_option linter.unusedVariables false
set_option maxRecDepth 100000
set_option maxHeartbeats 16000000
namespace Go.Proofs.YthjdpplgfdihoaaGreatDoor
section
open Go Go.RowKit
theorem zk4 {α:Type} (P:α→Bool) (l:List α):l.any (fun f=>!P f)= !l.all P:=by
 induction l with
 |nil=>rfl
 |cons a r ih=>simp only[List.any_cons,List.all_cons,ih,Bool.not_and]
theorem vj3 (e:Ed) (D:Option Addr) (m d:Nat) (A:Option Addr) (n c:Nat) (w:World) (hm:m≤1000000) (hn:n≤1000000) (hrd:Row w.heap.size w D m 1 (vk e.drop)) (hr:Row w.heap.size w A n 2 (ax e.add)):
  Calls Tryz.prog 291 #[e.val D m d A n c] w fun x w'=>x=.returned (.bool e.may)∧Below w.heap.size w w':=by
 obtain⟨ds,fs,g,f,ce,a,l⟩:=e;obtain⟨b,hb⟩:=n_ (Ed.may ⟨ds,fs,g,f,ce,a,l⟩);have hfl:=hr.flen;have hdl:=hrd.ilen;rw[←hb];unfold Ed.may at hb;simp only at hb hr hfl hrd hdl;rw[qk2,hfl,hdl]at hb;unfold Ed.val;simp only
 by_cases h1:m≤40
 ·by_cases h2:n≤40
  ·by_cases h3:0≤g
   ·by_cases h4:g≤1073741824
    ·have hrow:=pq2 (w.alloc (.cells #[.slice D m d,.slice A n c,.int .i64 g,.int .u64 (f:Int),.int .u64 (ce:Int),.int .u64 (a:Int),.int .u64 (l:Int)] 194)) 22 #[.int .u64 (f:Int),.int .u64 (ce:Int),.int .u64 (a:Int),.int .u64 (l:Int)] [f,ce,a,l] 4 rfl rfl
     have hmeta:=kx2 _ 4 4 [f,ce,a,l] _ (by omega) hrow;have hbl:=(b_ w (.cells #[.slice D m d,.slice A n c,.int .i64 g,.int .u64 (f:Int),.int .u64 (ce:Int),.int .u64 (a:Int),.int .u64 (l:Int)] 194)).alloc (by simp) (.cells #[.int .u64 (f:Int),.int .u64 (ce:Int),.int .u64 (a:Int),.int .u64 (l:Int)] 22);have hih:=oz4 D m d ds _ hm ((hrd.below hbl).up hbl.size);have hfh:=jy4 A n c fs _ hn ((hr.below hbl).up hbl.size);rw[zk4]at hih hfh;have hbb:b=(!bigs [f,ce,a,l] &&ds.all isNum&&fs.all wz):=by rw[hb];simp[h1,h2,h3,h4]
     clear hb hrow hrd hr;simp only[A_]at hmeta
     cases h5:bigs [f,ce,a,l] with
     |true=>
      rw[h5]at hbb hmeta;have HB:=H_ hbb;clear hbb h5 hih hfh;simp only[bU_]at hmeta;go_enter Tryz.func291,Tryz.ntmps291;go_wp2_with fail;refine hmeta.mono ?_;rintro e w1 ⟨rfl,rfl⟩;clear hmeta;go_wp2;go_ret;exact⟨ix1 (HB.out.trans rfl).symm,hbl⟩
     |false=>
      rw[h5]at hbb hmeta
      cases h6:ds.all isNum with
      |false=>
       rw[h6]at hbb hih;have HB:=H_ hbb;clear hbb h5 h6 hfh;simp only[ce_]at hmeta hih;go_enter Tryz.func291,Tryz.ntmps291;go_wp2_with fail;refine hmeta.mono ?_;rintro e w1 ⟨rfl,rfl⟩;clear hmeta;go_wp2_with fail;refine hih.mono ?_;rintro e w1 ⟨rfl,rfl⟩;clear hih;go_wp2;go_ret;exact⟨ix1 (HB.out.trans rfl).symm,hbl⟩
      |true=>
       rw[h6]at hbb hih;generalize fs.all wz=y at *;have HB:=H_ hbb;clear hbb h5 h6;simp only[bU_]at hih;simp only[ce_]at hmeta;go_enter Tryz.func291,Tryz.ntmps291;go_wp2_with fail;refine hmeta.mono ?_;rintro e w1 ⟨rfl,rfl⟩;clear hmeta;go_wp2_with fail;refine hih.mono ?_;rintro e w1 ⟨rfl,rfl⟩;clear hih;go_wp2_with fail;refine hfh.mono ?_;rintro e w1 ⟨rfl,hb1⟩;have hbz:=az hbl hb1;clear hfh
       cases y
       all_goals
        go_wp2;go_ret;exact⟨ix1 (HB.out.trans rfl).symm,hbz⟩
    ·have HB:=H_ (hb.trans (show _=false by simp[h4]))
     clear hb;go_enter Tryz.func291,Tryz.ntmps291;go_wp2;go_ret;exact⟨ix1 HB.out.symm,b_ _ _⟩
   ·have HB:=H_ (hb.trans (show _=false by simp[h3]))
    clear hb;go_enter Tryz.func291,Tryz.ntmps291;go_wp2;go_ret;exact⟨ix1 HB.out.symm,b_ _ _⟩
  ·have HB:=H_ (hb.trans (show _=false by simp[h2]))
   clear hb;go_enter Tryz.func291,Tryz.ntmps291;go_wp2;go_ret;exact⟨ix1 HB.out.symm,b_ _ _⟩
 ·have HB:=H_ (hb.trans (show _=false by simp[h1]))
  clear hb;go_enter Tryz.func291,Tryz.ntmps291;go_wp2;go_ret;exact⟨ix1 HB.out.symm,b_ _ _⟩
end
section
open Go Go.RowKit
theorem BoxO.stores {e:TypeId} {g:Nat}:∀(vs:List Value) (o:Nat) (w:World) (xs:List Value),BoxO w e g xs→o+vs.length≤xs.length→BoxO (w.setCells g o vs) e g (xs.take o++(vs++xs.drop (o+vs.length)))
 |[],o,w,xs,h,_=>by simpa [World.setCells] using h
 |v::r,o,w,xs,h,ho=>by
  simp only[r_]at ho;have h1:=BoxO.stores r (o+1) (w.setCell ⟨g,o,none⟩ v) (xs.set o v) (h.store o v) (by simp;omega);have e1:(xs.set o v).take (o+1)=xs.take o++[v]:=by
   rw[o_ (by simp;omega),List.take_set_of_le l_];simp
  have e2:(xs.set o v).drop (o+1+r.length)=xs.drop (o+(r.length+1)):=by
   rw[ci_,if_pos (by omega),show o+1+r.length=o+(r.length+1) by omega]
  rw[e1,e2,D_]at h1;simpa [World.setCells] using h1
theorem xw (g:Nat):∀(vs:List Value) (o:Nat) (w w':World),Chg [g] w w'→Chg [g] w (w'.setCells g o vs)
 |[],_,_,_,h=>h
 |v::r,o,w,w',h=>xw g r (o+1) w _ (h.setCell v (.inl (by simp)))
theorem cw2 (w:World) (ty:TypeId) (g o c:Nat) (hc:∀j,j < 2→(w.cell? ⟨g,o+j,none⟩).isSome=true) (hf:∀j,j < 2→w.frozen? ⟨g,o+j,none⟩=false):
  (Builtin.clear_ #[84] ty #[.slice (some ⟨g,o,none⟩) 1 c]).run Tryz.prog w=.ok (.tuple #[]) (w.setCells g o [.int .i64 0,.int .i64 0]):=by
 have hst:=run_storeCells_cells (P:=Tryz.prog) g o [.int .i64 0,.int .i64 0] 0 w (by simpa using hc) (by simpa using hf) (by intro v hv;simp at hv;subst hv;rfl);simp only[bd_]at hst;have hz:(zeroValue 170).run Tryz.prog w=.ok (.agg #[.int .i64 0,.int .i64 0]) w:=by kernel_rfl
 have hzc:(Builtin.zeroCells (Value.agg #[.int .i64 0,.int .i64 0]).cells 1).toList=[.int .i64 0,.int .i64 0]:=by kernel_rfl
 simp[Builtin.clear_,run_underlying Tryz.underlying84,hz,hzc,hst]
theorem jw1:(Tryz.prog.info? 170).map (fun i=>(i.zero,i.size,i.bytes))=some (some (.agg #[.int .i64 0,.int .i64 0]),2,16):=by kernel_rfl
theorem jq4 (base g n cap i:Nat) (fs:List (Int×Int)) (w:World) (ho:w.ownsRow base 170 2 (.slice (some ⟨g,0,none⟩) n cap) n (ax fs)) (hi:i < n):
  Calls Tryz.prog 294 #[.slice (some ⟨g,0,none⟩) n cap,.int .i64 (i:Int),.int .i64 ((i:Int)+1)] w fun e w'=>e=.returned (.slice (some ⟨g,0,none⟩) (n - 1) cap)∧
   w'.ownsRow base 170 2 (.slice (some ⟨g,0,none⟩) (n - 1) cap) (n - 1) (ax (fs.eraseIdx i))∧Chg [g] w w':=by
 obtain⟨i0,hi0,hz0,hz1,hz2⟩:=info_parts jw1;have hxl:=ho.1;rw[fy1]at hxl
 rcases ho.2 with ⟨_,h0⟩|⟨g',cap',cur,hv,hbg,hheap,hn,hcm,hcs,htk⟩
 ·omega
 injection hv with hv1 hv2 hv3;injection hv1 with hv1;injection hv1 with hv1;subst hv1 hv3;clear hv2;have hB:BoxO w 170 g cur.toList:=by unfold BoxO;simpa using hheap
 have hcl:cur.toList.length=cap *2:=by simpa using hcs
 obtain⟨k,hk⟩:∃k,n - (i+1)=k:=⟨_,rfl⟩;have hgetc:∀j,j < n *2→w.cell? ⟨g,j,none⟩=(ax fs)[j]?:=fun j hj=>by
  rw[hB.cell,←htk,aI_,if_pos hj]
 obtain⟨news,hnews⟩:=n_ (ax (fs.drop (i+1)));have hnl:news.length=k *2:=by rw[hnews,fy1,B_];omega
 have hnd:news=(ax fs).drop ((i+1)*2):=by rw[hnews,cx3]
 obtain⟨A,hA,hsrc⟩:∃A:Addr,(if cap=i+1 then some (⟨g,0,none⟩:Addr) else some ⟨g,(i+1)*2,none⟩)=some A∧Hid (∀j u,news[j]?=some u→w.drew.cell? (A.add j)=some u):=by
  by_cases h:cap=i+1
  ·refine⟨⟨g,0,none⟩,by simp[h],fun j u hu=>?_⟩
   have h0:news.length=0:=by rw[hnl];omega
   rw[U_.1 h0]at hu;simp at hu
  ·refine⟨⟨g,(i+1)*2,none⟩,by simp[h],fun j u hu=>?_⟩
   have hj:j < k *2:=by have:=(G_.1 hu).1;omega
   rw[Addr.add_lit,show w.drew.cell? ⟨g,(i+1)*2+j,none⟩=w.cell? ⟨g,(i+1)*2+j,none⟩ from rfl,hgetc _ (by omega),←hu,hnd,an_]
 have s1:Hid (news.length=k *2):=hnl;have s2:Hid (∀u∈news,u.oneCell'=true):=by rw[hnews];exact dq1 _
 have s3:Hid (∀j,j < news.length→(w.drew.cell? ⟨g,0+i *2+j,none⟩).isSome=true∧w.drew.frozen? ⟨g,0+i *2+j,none⟩=false):=by
  intro j hj;rw[hnl]at hj;refine⟨?_,hB.free _⟩;rw[show w.drew.cell? ⟨g,0+i *2+j,none⟩=w.cell? ⟨g,0+i *2+j,none⟩ from rfl,hB.cell,j_ (by omega)];rfl
 obtain⟨W1,hW1⟩:=n_ (w.drew.setCells g (0+i *2) news);have hB1:BoxO W1 170 g (cur.toList.take (i *2)++(news++cur.toList.drop (i *2+news.length))):=by
  rw[hW1,ag_];exact BoxO.stores news (i *2) w.drew _ hB.drew (by omega)
 have hC1:Chg [g] w W1:=by
  rw[hW1];exact xw g news _ w _ (Chg.refl _ _).drew
 have hcell:∀j,j < 2→(W1.cell? ⟨g,(i+k)*2+j,none⟩).isSome=true:=fun j hj=>by
  rw[hB1.cell,j_ (by simp only[e_,u_,B_];omega)];rfl
 have hclr:=fun ty c=>cw2 W1 ty g ((i+k)*2) c hcell (fun j hj=>hB1.free _);have hB2:=BoxO.stores [.int .i64 0,.int .i64 0] ((i+k)*2) W1 _ hB1 (by simp only[e_,u_,B_,r_,R_];omega);have hC2:=xw g [.int .i64 0,.int .i64 0] ((i+k)*2) w _ hC1;obtain⟨W2,hW2⟩:=n_ (W1.setCells g ((i+k)*2) [.int .i64 0,.int .i64 0]);rw[←hW2]at hB2 hC2;simp only[←hW2]at hclr;have hfin:W2.ownsRow base 170 2 (.slice (some ⟨g,0,none⟩) (i+k) cap) (i+k) (ax (fs.eraseIdx i)):=by
  refine⟨by rw[fy1,List.length_eraseIdx_of_lt (by omega)];omega,.inr ⟨g,cap,_,rfl,hbg,hB2,by omega,hcm,?_,?_⟩⟩
  ·simp only[aj_,e_,u_,B_,r_,R_]
   omega
  ·have e1:ax (fs.eraseIdx i)=(ax fs).take (i *2)++news:=by
    rw[List.eraseIdx_eq_take_drop_succ,rv1,ij1,hnews]
   have e2:(ax fs).take (i *2)=cur.toList.take (i *2):=by
    rw[←htk,aE_,aH_ (by omega)]
   rw[e1,e2,Q_ (by simp only[e_,u_,B_];omega),aE_,aH_ (by omega),←D_,
    Q_ (by simp only[e_,u_];omega),i_ (by simp only[e_,u_];omega)]
 have hik:i+k=n - 1:=by omega
 have HF:Hid (W2.ownsRow base 170 2 (.slice (some ⟨g,0,none⟩) (n - 1) cap) (n - 1) (ax (fs.eraseIdx i))):=by rw[←hik];exact hfin
 have HIK:=H_ hik;have HW:=H_ hW1;have e1:((i:Int)==(i:Int)+1)=false:=by simp;omega
 have hic:i≤cap:=by omega
 have hic1:i+1≤cap:=by omega
 have hji:0≤(i:Int)+1∧(i:Int)+1≤(n:Int):=by omega
 have hroom:i+k≤cap:=by omega
 have hkn:i+k≤n:=by omega
 have hn1:n - (i+k)=1:=by omega
 have hnc:(n:Int)≤(cap:Int):=by omega
 unfold maxLen at hcm;clear ho hheap hB hcl hgetc hnews hnl hnd hB1 hC1 hcell hB2 hW2 hfin hik hW1 htk hcs hxl;go_enter Tryz.func294,Tryz.ntmps294;go_wp2_with fail
 go_region_law (refine step_append_room rfl (.tmp 22) (.tmp 25) 84 rfl 170 i0 2 Tryz.underlying84 hi0 hz1 g 0 i cap (by simp[Act.eval,Act.put]) A k (cap - (i+1)) news (by simp[Act.eval,Act.put]) s1.out hsrc.out s2.out hroom s3.out ?_;rw[←HW.out])
 go_wp2_with fail;go_ret;exact⟨congrArg (fun x=>Ending.returned (Value.slice (some ⟨g,0,none⟩) x cap)) HIK.out,HF.out,hC2⟩
end
section
open It
namespace Tb
def cut (n:Nat):Nat→List It→List (List It)
 |0,_=>[]
 |f+1,l=>if l=[] then [] else l.take n::cut n f (l.drop n)
def rows (l:List It):List (List It):=cut 20 l.length l
def may (l:List It):Bool:=decide (l≠[]) &&decide (uq l) &&l.all ok
def blocks (l:List (List It)):List UInt8:=l.flatMap fun r=>Fr.put 2 (It.bytes r)
def index:Nat→List (List It)→List UInt8
 |_,[]=>[]
 |p,r::l=>Pn.put p++(It.bytes (r.take 1)++index (p+(Fr.put 2 (It.bytes r)).length) l)
def cy2 (n:Nat):Nat:=(max (n *10) 64+7) / 8
def places (size:Nat) (key:List UInt8):List Nat:=(List.range 7).map fun i=>(((Fnv.hash key).toNat % 4294967296+i *((Fnv.hash key).toNat / 4294967296)) % 4294967296) % (size *8)
def jx1 (b:List UInt8) (i:Nat):List UInt8:=b.set (i / 8) (b.getD (i / 8) 0|||UInt8.ofNat (2 ^ (i % 8)))
def addKey (b:List UInt8) (key:List UInt8):List UInt8:=(places b.length key).foldl jx1 b
def bits (l:List It):List UInt8:=l.foldl (fun b a=>addKey b a.key) (List.replicate (cy2 l.length) 0)
def filt (l:List It):List UInt8:=Pn.put 7++(Pn.put (bits l).length++bits l)
def make (l:List It):List UInt8:=
 let a:=blocks (rows l)
 let b:=a++Fr.put 3 (index 0 (rows l))
 b++(Fr.put 4 (filt l)++Fr.put 5 (Pn.put a.length++(Pn.put b.length++Pn.put l.length)))
def good (l:List It):Bool:=decide (l.length≤2000) &&decide (uq l) &&l.all ok
def parse:Nat→List UInt8→Nat→List (List It)
 |0,_,_=>[]
 |f+1,b,p=>if (Fr.take b p).2.2.2=0∧(Fr.take b p).1=2∧(It.read (Fr.take b p).2.1).2=0∧(It.read (Fr.take b p).2.1).1.length≤100∧may (It.read (Fr.take b p).2.1).1=true then
   (It.read (Fr.take b p).2.1).1::parse f b (Fr.take b p).2.2.1 else []
def open_ (b:List UInt8):Option (List (List It)):=
 if good (parse (b.length+1) b 0).flatten=true∧make (parse (b.length+1) b 0).flatten=b then some (parse (b.length+1) b 0) else none
theorem lv3 (n:Nat) (hn:0 < n):∀(f:Nat) (l:List It),l.length≤f→(cut n f l).flatten=l
 |0,l,h=>by
  have:l=[]:=U_.1 (by omega);simp[cut,this]
 |f+1,l,h=>by
  unfold cut;split
  ·simp[*]
  ·rename_i hl
   have hp:0 < l.length:=bB_.2 hl;rw[b6_,lv3 n hn f (l.drop n) (by rw[B_];omega),aa_]
theorem fq4 (l:List It):(rows l).flatten=l:=lv3 20 (by omega) _ _ l_
theorem nk2 (n:Nat) (hn:0 < n):∀(f:Nat) (l:List It),∀r∈cut n f l,r≠[]∧r.length≤n∧r.Sublist l
 |0,l=>by simp[cut]
 |f+1,l=>by
  unfold cut;split
  ·simp
  ·rename_i hl
   intro r hr
   rcases g_.1 hr with rfl|hr
   ·exact⟨by simp[hl];omega,by simp;omega,b4_ _ _⟩
   ·obtain⟨h1,h2,h3⟩:=nk2 n hn f _ r hr
    exact⟨h1,h2,h3.trans (List.drop_sublist _ _)⟩
theorem wk1 (n:Nat) (hn:0 < n):∀(f:Nat) (l:List It),(cut n f l).length *n≤l.length+n - 1
 |0,l=>by simp[cut]
 |f+1,l=>by
  unfold cut;split
  ·simp
  ·rename_i hl
   have hp:0 < l.length:=bB_.2 hl;have:=wk1 n hn f (l.drop n);rw[B_]at this;rw[r_,cb_]
   rcases T_ l.length n with h|h
   ·have h0:l.length - n=0:=by omega
    rw[h0,ag_]at this;have:(cut n f (l.drop n)).length=0:=by
     have h1:l.drop n=[]:=aq_ (by omega);rw[h1]
     cases f<;>simp[cut]
    rw[this];omega
   ·omega
theorem uw1:∀(rs:List (List It)) (f:Nat) (a t:List UInt8),(∀r∈rs,may r=true∧r.length≤100∧∀y∈r,y.fit)→rs.length < f→
  (Fr.take (a++(blocks rs++t)) (a.length+(blocks rs).length)).1≠2∨(Fr.take (a++(blocks rs++t)) (a.length+(blocks rs).length)).2.2.2≠0→parse f (a++(blocks rs++t)) a.length=rs
 |[],f,a,t,_,hf,ht=>by
  obtain⟨f,rfl⟩:∃g,f=g+1:=⟨f - 1,by simp at hf;omega⟩;simp only[blocks,List.flatMap_nil,y_,R_,bd_]at ht ⊢;unfold parse;rw[if_neg];rintro⟨h1,h2,_⟩
  rcases ht with h|h
  ·exact h h2
  ·exact h h1
 |r::rs,f,a,t,hr,hf,ht=>by
  obtain⟨f,rfl⟩:∃g,f=g+1:=⟨f - 1,by simp at hf;omega⟩;obtain⟨h1,h2,h3⟩:=hr r m_;have hok:∀y∈r,y.ok=true:=by
   simp only[may,K_,al_]at h1;exact h1.2
  have hbl:=It.aq1 r;have e0:a++(blocks (r::rs)++t)=a++(Fr.put 2 (It.bytes r)++(blocks rs++t)):=by simp[blocks]
  have e1:a++(Fr.put 2 (It.bytes r)++(blocks rs++t))=(a++Fr.put 2 (It.bytes r))++(blocks rs++t):=by simp
  have ht2:=Fr.ik1 a 2 (It.bytes r) (blocks rs++t) (by omega) (by omega) (by omega);have hrd:=It.sx3 (l:=r) (fun y hy=>⟨hok y hy,h3 y hy⟩) (by omega);unfold parse;rw[e0,ht2];simp only[hrd,true_and];rw[if_pos ⟨h2,h1⟩]
  congr 1
  have:=uw1 rs f (a++Fr.put 2 (It.bytes r)) t (fun q hq=>hr q (f_ _ hq)) (by simp at hf;omega) (by
   have e2:a.length+(blocks (r::rs)).length=(a++Fr.put 2 (It.bytes r)).length+(blocks rs).length:=by simp[blocks];omega
   rw[e0,e2,e1]at ht;exact ht)
  rw[←e1,e_]at this;exact this
theorem fj3 {l:List It} (h:good l=true) (hf:∀y∈l,y.fit):∀r∈rows l,may r=true∧r.length≤100∧∀y∈r,y.fit:=by
 intro r hr;simp only[good,K_,decide_eq_true_eq,al_]at h;obtain⟨h1,h2,h3⟩:=nk2 20 (by omega) _ _ r hr;refine⟨?_,by omega,fun y hy=>hf y (h3.subset hy)⟩;simp only[may,K_,decide_eq_true_eq,al_];exact⟨⟨h1,h.1.2.sublist h3⟩,fun y hy=>h.2 y (h3.subset hy)⟩
theorem oq1:∀(p:Nat) (rs:List (List It)),(index p rs).length≤52 *rs.length
 |_,[]=>by simp[index]
 |p,r::rs=>by
  have h1:=oq1 (p+(Fr.put 2 (It.bytes r)).length) rs;have h2:=Pn.ik p;have h3:=It.aq1 (r.take 1);have h4:(r.take 1).length≤1:=by rw[u_];omega
  simp only[index,e_,r_];omega
theorem ew4 {l:List It} (h:good l=true) (hf:∀y∈l,y.fit):open_ (make l)=some (rows l):=by
 have hl:l.length≤2000:=by simp only[good,K_,decide_eq_true_eq]at h;exact h.1.1
 have hrl:(rows l).length≤100:=by
  have:=wk1 20 (by omega) l.length l;unfold rows;omega
 have hil:=oq1 0 (rows l);have hp:parse ((make l).length+1) (make l) 0=rows l:=by
  have e:make l=[] ++(blocks (rows l)++(Fr.put 3 (index 0 (rows l))++(Fr.put 4 (filt l)++Fr.put 5 (Pn.put (blocks (rows l)).length++(Pn.put (blocks (rows l)++Fr.put 3 (index 0 (rows l))).length++Pn.put l.length))))):=by
   simp[make]
  have hlen:(rows l).length < (make l).length+1:=by
   have:∀rs:List (List It),rs.length≤(blocks rs).length:=fun rs=>by
    induction rs with
    |nil=>simp
    |cons r rs ih=>simp only[blocks,M_,e_,r_,Fr.uj]at *;omega
   have h1:=this (rows l);have h2:(blocks (rows l)).length≤(make l).length:=by rw[e];simp
   omega
  generalize (make l).length+1=f at *;rw[e];refine uw1 (rows l) f [] _ (fj3 h hf) hlen (.inl ?_);rw[y_,R_,ag_];rw[Fr.ik1 (blocks (rows l)) 3 (index 0 (rows l)) _ (by omega) (by omega) (by omega)];exact(by decide:(3:Nat)≠2)
 unfold open_;rw[hp,fq4,if_pos ⟨h,rfl⟩]
end Tb
namespace Lg
def batch (l:List It):List UInt8:=Fr.put 1 (It.bytes l)
theorem pw2 (l:List It):(batch l).length≤22+32 *l.length:=by
 have:=It.aq1 l;rw[batch,Fr.uj];omega
end Lg
end
section
open Go Go.RowKit
namespace Pn
theorem ik2:∀(l:List UInt8) (i acc:Nat),(takeF i acc l).2.2=0→(takeF i acc l).2.1≤i+l.length
 |[],i,acc,h=>by simp[takeF]at h
 |c::r,i,acc,h=>by
  unfold takeF at h ⊢;split
  ·rw[if_pos (by assumption)]at h;simp at h
  ·rw[if_neg (by assumption)]at h
   split
   ·simp
   ·rw[if_neg (by assumption)]at h
    have:=ik2 r (i+1) _ h;simp only[r_];omega
theorem take_size {l:List UInt8} (h:(take l).2.2=0):(take l).2.1≤l.length:=by
 have:=ik2 l 0 0 h;unfold take;omega
theorem ky3:∀(l:List UInt8) (i acc:Nat),i≤9→acc < 2 ^ (7 *i)→(takeF i acc l).1 < 2 ^ 64
 |[],i,acc,_,_=>by simp[takeF]
 |c::r,i,acc,hi,ha=>by
  unfold takeF;split
  ·simp
  ·rename_i hn
   have h9:i=9→c.toNat≤1:=fun e=>by
    rcases T_ 1 c.toNat with h|h
    ·exact absurd (.inl ⟨e,h⟩) hn
    ·exact h
   have hpow:2 ^ (7 *i)*128=2 ^ (7 *(i+1)):=by rw[Nat.mul_add,ch_]
   split
   ·rename_i hc
    show acc+c.toNat *2 ^ (7 *i) < 2 ^ 64
    rcases (by omega:i=9∨i≤8) with rfl|h8
    ·have:=h9 rfl
     have e1:c.toNat *2 ^ (7 *9)≤1 *2 ^ (7 *9):=aX_ _ this;omega
    ·have e1:c.toNat *2 ^ (7 *i)≤127 *2 ^ (7 *i):=aX_ _ (by omega)
     have e2:2 ^ (7 *(i+1))≤2 ^ 63:=bv_ (by omega) (by omega);omega
   ·rename_i hc
    have h8:i≤8:=by
     rcases (by omega:i=9∨i≤8) with rfl|h8
     ·have:=h9 rfl;omega
     ·exact h8
    refine ky3 r (i+1) _ (by omega) ?_;have hcl:=c.toNat_lt;have e1:(c.toNat - 128)*2 ^ (7 *i)≤127 *2 ^ (7 *i):=aX_ _ (by omega);omega
theorem gz4 (l:List UInt8):(take l).1 < 2 ^ 64:=ky3 l 0 0 (by omega) (by simp)
end Pn
theorem vw1 {B N:Nat} {w:World} {A:Option Addr} {l:List UInt8} (hr:Row B w A N 1 (bts l)) {s:Nat} (hs:s≤N) {A':Option Addr} (hA:s < N→A'=A.map (·.add s)):Row B w A' (N - s) 1 (bts (l.drop s)):=by
 have h:=hr.cut (A':=A') hs (x_ N) (fun hlt=>by rw[aW_];exact hA hlt);rw[aW_,aW_,←mx2,←gz1]at h
 rwa [i_ (by have:=hr.xk;rw[B_];omega)]at h
end
section
open Go.RowKit
end
section
open Go Go.RowKit Go.Lib
theorem SkAt.lt {w:World} {L:Nat} {ns:List Nd} (h:SkAt w L ns):∀g∈skF L ns,g < w.heap.size:=by
 intro g hg
 rcases g_.1 hg with rfl|hg
 ·obtain⟨_,_,_,_,hL⟩:=h.head
  exact hL.lt
 ·obtain⟨n,hn,hg⟩:=O_.1 hg
  simp only[g_,ar_,or_false]at hg
  rcases hg with rfl|rfl
  ·exact(h.core.node n hn).lt
  ·obtain⟨i,hi⟩:=aV_.1 hn
   obtain⟨cs,h1,_⟩:=h.core.tower i n hi;exact h1.lt
def oc (ns:List Nd) (J:Nat→Nat) (k:Nat):List Value:=(List.range 6).map fun l=>if k≤l then pv ns (J l) else .pointer none
theorem uy4 (ns:List Nd) (J:Nat→Nat) (k i:Nat) (hk:k < 6):(oc ns J (k+1)).set k (pv ns i)=oc ns (fun l=>if l=k then i else J l) k:=by
 have e:k=0∨k=1∨k=2∨k=3∨k=4∨k=5:=by omega
 rcases e with rfl|rfl|rfl|rfl|rfl|rfl<;>simp[oc,List.range,List.range.loop]
theorem iv5 {w:World} {g j k:Nat} {ns:List Nd} {J:Nat→Nat} (h:BoxO w 292 g (oc ns J k)) (hj:j < 6):∃u,w.cell? ⟨g,j,none⟩=some u:=by
 rw[h.cell];exact⟨_,j_ (by simpa [oc] using hj)⟩
theorem kz16 {P S a oi v} (h:Hv P S a oi v:=by intro w hSw;skip;go_simp;try (with_reducible rfl)):Hv P S a oi v:=h
theorem kz17 {P S a oi v} (h:Hv P S a oi v:=by intro w hSw;(obtain⟨⟨y0,y1,y2,y3,y4⟩,x0,x1,x2,x3,x4⟩:=KC.out w hSw);go_simp;try (with_reducible rfl)):Hv P S a oi v:=h
theorem tz3 (L q:Nat) (ns:List Nd) (x:It) (w:World) (h:SkAt w L ns) (hq:q=pos (its ns) x+1):
  Calls Tryz.prog 238 #[.pointer (some ⟨L,0,none⟩),x.val] w fun e w'=>∃J:Nat→Nat,(∀l,l < 6→Pred ns l q (J l))∧e=.returned (.agg #[pv ns (J 0),pv ns (J 1),pv ns (J 2),pv ns (J 3),pv ns (J 4),pv ns (J 5)])∧Below w.heap.size w w':=by
 have hlt:=h.lt;have hW:=((b_ w (.cells #[.int .i64 x.s,.int .i64 x.k,.int .u64 (x.t:Int),.int .u64 (x.v:Int),.int .i64 x.x] 36)).alloc (by simp) (.cells #[.pointer none,.pointer none,.pointer none,.pointer none,.pointer none,.pointer none] 292)).alloc (by simp;omega) (.cells #[.pointer none,.pointer none,.pointer none,.pointer none,.pointer none,.pointer none] 292);have hs3:=h.below hW;have hbx:BoxO (((w.alloc (.cells #[.int .i64 x.s,.int .i64 x.k,.int .u64 (x.t:Int),.int .u64 (x.v:Int),.int .i64 x.x] 36)).alloc (.cells #[.pointer none,.pointer none,.pointer none,.pointer none,.pointer none,.pointer none] 292)).alloc (.cells #[.pointer none,.pointer none,.pointer none,.pointer none,.pointer none,.pointer none] 292)) 36 w.heap.size x.cells:=((BoxO.new w #[.int .i64 x.s,.int .i64 x.k,.int .u64 (x.t:Int),.int .u64 (x.v:Int),.int .i64 x.x] 36).alloc _).alloc _;have hb4:BoxO (((w.alloc (.cells #[.int .i64 x.s,.int .i64 x.k,.int .u64 (x.t:Int),.int .u64 (x.v:Int),.int .i64 x.x] 36)).alloc (.cells #[.pointer none,.pointer none,.pointer none,.pointer none,.pointer none,.pointer none] 292)).alloc (.cells #[.pointer none,.pointer none,.pointer none,.pointer none,.pointer none,.pointer none] 292)) 292 (w.heap.size+1) (oc ns (fun _=>0) 6):=by
  have:=(BoxO.new (w.alloc (.cells #[.int .i64 x.s,.int .i64 x.k,.int .u64 (x.t:Int),.int .u64 (x.v:Int),.int .i64 x.x] 36)) #[.pointer none,.pointer none,.pointer none,.pointer none,.pointer none,.pointer none] 292).alloc (.cells #[.pointer none,.pointer none,.pointer none,.pointer none,.pointer none,.pointer none] 292);simpa [oc,List.range,List.range.loop] using this
 have hb5:BoxO (((w.alloc (.cells #[.int .i64 x.s,.int .i64 x.k,.int .u64 (x.t:Int),.int .u64 (x.v:Int),.int .i64 x.x] 36)).alloc (.cells #[.pointer none,.pointer none,.pointer none,.pointer none,.pointer none,.pointer none] 292)).alloc (.cells #[.pointer none,.pointer none,.pointer none,.pointer none,.pointer none,.pointer none] 292)) 292 (w.heap.size+2) (oc ns (fun _=>0) 6):=by
  have:=BoxO.new ((w.alloc (.cells #[.int .i64 x.s,.int .i64 x.k,.int .u64 (x.t:Int),.int .u64 (x.v:Int),.int .i64 x.x] 36)).alloc (.cells #[.pointer none,.pointer none,.pointer none,.pointer none,.pointer none,.pointer none] 292)) #[.pointer none,.pointer none,.pointer none,.pointer none,.pointer none,.pointer none] 292;simpa [oc,List.range,List.range.loop] using this
 obtain⟨hd,tl,hns,h6,hL⟩:=hs3.head;have l0:=hL.c0;have e0:Value.pointer (some ⟨hd.b,0,none⟩)=pv ns 0:=by unfold pv;rw[zz3 (ns:=ns) (j:=0) (n:=hd) (by rw[hns];rfl)]
 have hql:q≤ns.length:=by
  have h1:=sj2 (its ns) x;have h2:(its ns).length+1=ns.length:=by rw[hns];simp[its]
  omega
 have hless:=fun(k:Nat) (n:Nd) (hk:0 < k) (e:ns[k]?=some n)=>bv5 (x:=x) h.rises hk e;obtain⟨gs,hgs⟩:=n_ w.heap.size;have hgl:∀g∈skF L ns,g∉[gs+2]:=fun g hg=>by have:=hlt g hg;simp;omega
 have HS3:=H_ hs3;have HGL:=H_ hgl;have HW:=H_ hW;have HBX:=H_ hbx;have HB5:=H_ hb5;have HLS:=H_ hless;have HE0:=H_ e0;have HH6:=H_ h6;have HNS:=H_ hns;have HQ:=H_ hq;have HGS:=H_ hgs;have HB4:=H_ hb4;clear hs3 hgl hW hbx hb4 hb5 hless e0 h6 hns hq hgs hlt h hL;unfold It.val;go_enter Tryz.func238,Tryz.ntmps238;go_wp2_with fail;generalize hV:(((w.alloc (.cells #[.int .i64 x.s,.int .i64 x.k,.int .u64 (x.t:Int),.int .u64 (x.v:Int),.int .i64 x.x] 36)).alloc (.cells #[.pointer none,.pointer none,.pointer none,.pointer none,.pointer none,.pointer none] 292)).alloc (.cells #[.pointer none,.pointer none,.pointer none,.pointer none,.pointer none,.pointer none] 292))=V at *;clear hV l0
 go_loopw [6,7] (fun at_ hI wr=>∃(k i:Nat) (n:Nd) (J:Nat→Nat),hI=.int .i64 ((k:Int) - 1)∧at_=.pointer (some ⟨n.b,0,none⟩)∧Hid (k≤6∧ns[i]?=some n∧k≤n.h∧i < q∧∀l,k≤l→l < 6→Pred ns l q (J l))∧Hid (BoxO wr 292 (w.heap.size+2) (oc ns J k))∧Chg [w.heap.size+2] V wr) (fun _ hI _=>(intOf hI+1).toNat)
 case atStart=>exact⟨6,0,hd,fun _=>0,rfl,rfl,H_ ⟨x_ _,by rw[HNS.out];rfl,by rw[HH6.out];exact x_ _,by rw[HQ.out];omega,fun l h1 h2=>absurd h2 (by omega)⟩,HB5,Chg.refl _ _⟩
 case round=>
  obtain⟨k,i,n,J,rfl,rfl,HK,HB,hc⟩:=hrel
  cases k with
  |zero=>
   have hk0:((0:Int)≤((0:Nat):Int) - 1)=False:=eq_false (by omega);have g5:=HB.out;have g4:=HB4.out.chg hc (by simp);have o0:=g5.cell 0;have o1:=g5.cell 1;have o2:=g5.cell 2;have o3:=g5.cell 3;have o4:=g5.cell 4;have o5:=g5.cell 5;have r0:=g4.cell 0;have r1:=g4.cell 1;have r2:=g4.cell 2;have r3:=g4.cell 3;have r4:=g4.cell 4;have r5:=g4.cell 5;have f0:=g4.free 0;have f1:=g4.free 1;have f2:=g4.free 2;have f3:=g4.free 3;have f4:=g4.free 4;have f5:=g4.free 5;simp[oc,pv,List.range,List.range.loop]at o0 o1 o2 o3 o4 o5 r0 r1 r2 r3 r4 r5;have HC:=H_ (show Chg [w.heap.size+1,w.heap.size+2] w wr from (Chg.of_below HW.out _).trans (hc.mono (G:=[w.heap.size+1,w.heap.size+2]) (fun g hg=>.inl (by rw[c_.1 hg];simp))) (fun g hg=>.inl hg));clear g4 g5 hc HB;go_wp2;refine bodyPost_ret (v:=.agg #[pv ns (J 0),pv ns (J 1),pv ns (J 2),pv ns (J 3),pv ns (J 4),pv ns (J 5)]) (by simp[results,go_sem,pv, *]) rfl ⟨J,fun l hl=>HK.out.2.2.2.2 l z_ hl,rfl,?_⟩;exact((((((HC.out.setCell _ (.inl (by simp))).setCell _ (.inl (by simp))).setCell _ (.inl (by simp))).setCell _ (.inl (by simp))).setCell _ (.inl (by simp))).setCell _ (.inl (by simp))).below l_ (fun g hg=>by simp at hg;omega)
  |succ j=>
   have hj0:(((j+1:Nat):Int) - 1)=(j:Int):=by omega
   rw[hj0];have hjp:(0:Int)≤(j:Int):=by omega
   have hwj:IntKind.i64.wrap (j:Int)=(j:Int):=F_ _ (by have:=HK.out.1;omega);have hsr:=HS3.out.chg hc (fun g hg=>by have:=HGL.out g hg;rwa [HGS.out]at this);obtain⟨n5,⟨nl,nf⟩,nc,nc6⟩:=hsr.core.look (l:=j) HK.out.2.1 (by have:=HK.out.2.2.1;omega);have hjc:(j:Int) < (n.c:Int):=by omega
   have hld:=cy1 n.tb j _ wr nl (hsr.core.ptr j (i+1));have HLD:=H_ hld;have HSR:=H_ hsr;clear hld hsr nl nf;go_wp2_with fail;refine HLD.out.mono ?_;rintro e w1 ⟨rfl,rfl⟩;clear HLD;go_wp2_with fail;generalize hbe:nxb j (ns.drop (i+1))=be;have HBE:=H_ hbe;clear hbe
   go_loopw [6,8] (fun at2 nx w2=>∃(i2:Nat) (n2:Nd) (b2:Option Nat),at2=.pointer (some ⟨n2.b,0,none⟩)∧nx=.pointer (b2.map fun b=>⟨b,0,none⟩)∧Hid (nxb j (ns.drop (i2+1))=b2∧ns[i2]?=some n2∧j < n2.h∧i2 < q)∧Hid (BoxO w2 292 (w.heap.size+2) (oc ns J (j+1)))∧Chg [w.heap.size+2] V w2) (fun at2 _ _=>rk ns at2)
   case atStart=>exact⟨i,n,be,rfl,rfl,H_ ⟨HBE.out,HK.out.2.1,by have:=HK.out.2.2.1;omega,HK.out.2.2.2.1⟩,HB,hc⟩
   case round=>
    clear HB HSR hc HBE n5 hjc nc nc6;obtain⟨i2,n2,b2,rfl,rfl,HK2,HB,hc⟩:=hrel;have hsr:=HS3.out.chg hc (fun g hg=>by have:=HGL.out g hg;rwa [HGS.out]at this);have hbx:=HBX.out.chg hc (by simp)
    cases b2 with
    |none=>
     simp only[cd_];go_wp2_with fail;refine wp_region_held_drew (S:=fun w'=>Below wr.heap.size wr w') rfl (ak b0_) (fun hSw=>?_);refine w_v 0 hSw ?_ (k:=kz16);go_simp;refine w_v 1 hSw ?_ (k:=kz16);go_simp;refine w_v 2 hSw ?_ (k:=kz16);go_simp;refine wpT0 (i:=3) hSw ?_;go_simp;refine wpT0 (i:=4) hSw ?_;go_simp;refine wpT0 (i:=5) hSw ?_;go_simp;refine wpT0 (i:=6) hSw ?_;go_simp;refine wpT0 (i:=7) hSw ?_;go_simp;refine wpT0 (i:=8) hSw ?_;go_simp;refine w_v 9 hSw ?_ (k:=kz16);go_simp;refine wpAnyH_done (by kernel_rfl) ?_ _;have HP:=H_ (show Pred ns j q i2 from ⟨HK2.out.2.2.2,⟨n2,HK2.out.2.1,HK2.out.2.2.1⟩,fun m n' h1 h2 h3=>mw4 (sz4 HK2.out.1) m n' h1 h3⟩);have hsv:=hSw;clear hSw hsr hbx;generalize hXe:wr.drew=X at *;clear hXe;have hc3:Chg [w.heap.size+2] V X:=hc.trans (Chg.of_below hsv [w.heap.size+2]) (fun g hg=>.inl hg);have hb3:=HB.out.below hsv;have h56:j < 6:=by have:=HK.out.1;omega
     obtain⟨u,hu⟩:=iv5 hb3 h56;have hz:=hb3.free j;have hst:BoxO (X.setCell ⟨w.heap.size+2,j,none⟩ (.pointer (some ⟨n2.b,0,none⟩))) 292 (w.heap.size+2) (oc ns (fun l=>if l=j then i2 else J l) j):=by
      have e:=hb3.store j (.pointer (some ⟨n2.b,0,none⟩));have e2:=uy4 ns J j i2 h56;rw[show pv ns i2=Value.pointer (some ⟨n2.b,0,none⟩) by unfold pv;rw[zz3 HK2.out.2.1]]at e2;rw[←e2];exact e
     have hc4:Chg [w.heap.size+2] V (X.setCell ⟨w.heap.size+2,j,none⟩ (.pointer (some ⟨n2.b,0,none⟩))):=hc3.setCell _ (.inl (by simp));have hj6:(j:Int) < 6:=by omega
     have HF:=H_ (d_ (show ∀l,j≤l→l < 6→Pred ns l q (if l=j then i2 else J l) from fun l h1 h2=>by
      by_cases hl:l=j
      ·subst hl
       rw[if_pos rfl];exact HP.out
      ·rw[if_neg hl]
       exact HK.out.2.2.2.2 l (by omega) h2) (d_ hst hc4))
     clear hb3 hst hc3 hc4 h56 hsv HP;go_wp2;go_roundw
     case rel=>exact⟨j,i2,n2,_,by go_num,rfl,H_ ⟨by have:=HK.out.1;omega,HK2.out.2.1,by have:=HK2.out.2.2.1;omega,HK2.out.2.2.2,HF.out.1⟩,H_ (by exact HF.out.2.1),HF.out.2.2⟩
     case measure=>simp[intOf] <;>omega
    |some b=>
     obtain⟨n3,h3,rfl⟩:=ev3 HK2.out.1;obtain⟨k3,g1,g2,g3,g4⟩:=qq4 h3;have hls:=HLS.out k3 n3 (by omega) g2;rw[←HQ.out]at hls;have hless:=fun W=>ez1 n3.x x W;rw[hls]at hless;have hnd:=hsr.core.node n3 (p_ g2);generalize hxn:n3.x=y at *;have hkc:∀w',Below wr.heap.size wr w'→(w'.cell? ⟨n3.b,0,none⟩=some (.int .i64 y.s)∧w'.cell? ⟨n3.b,1,none⟩=some (.int .i64 y.k)∧w'.cell? ⟨n3.b,2,none⟩=some (.int .u64 (y.t:Int))∧w'.cell? ⟨n3.b,3,none⟩=some (.int .u64 (y.v:Int))∧w'.cell? ⟨n3.b,4,none⟩=some (.int .i64 y.x))∧(w'.cell? ⟨w.heap.size,0,none⟩=some (.int .i64 x.s)∧w'.cell? ⟨w.heap.size,1,none⟩=some (.int .i64 x.k)∧w'.cell? ⟨w.heap.size,2,none⟩=some (.int .u64 (x.t:Int))∧w'.cell? ⟨w.heap.size,3,none⟩=some (.int .u64 (x.v:Int))∧w'.cell? ⟨w.heap.size,4,none⟩=some (.int .i64 x.x)):=fun w' hb=>by
      have e1:=hnd.below hb;have e2:=hbx.below hb;exact⟨⟨e1.cell 0,e1.cell 1,e1.cell 2,e1.cell 3,e1.cell 4⟩,e2.cell 0,e2.cell 1,e2.cell 2,e2.cell 3,e2.cell 4⟩
     unfold It.val at hless
     by_cases hkq:k3 < q
     ·have hd1:decide (k3 < q)=true:=decide_eq_true hkq
      rw[hd1]at hless;have HLS2:=H_ hless;have KC:=H_ hkc;have H3:=H_ (d_ g2 g3);have H4:=H_ g1;have HSR:=H_ hsr;clear hless hkc hls hd1 hxn hnd hbx hsr g1 g2 g3 g4 h3;go_wp2_with fail;simp only[aK_];refine wp_region_held_drew (S:=fun w'=>Below wr.heap.size wr w') rfl (ak b0_) (fun hSw=>?_);refine w_v 0 hSw ?_ (k:=kz17);go_simp;refine w_v 1 hSw ?_ (k:=kz17);go_simp;refine w_v 2 hSw ?_ (k:=kz17);go_simp;refine w_v 3 hSw ?_ (k:=kz17);go_simp;refine w_v 4 hSw ?_ (k:=kz17);go_simp;refine w_v 5 hSw ?_ (k:=kz17);go_simp;refine w_v 6 hSw ?_ (k:=kz17);go_simp;refine w_v 7 hSw ?_ (k:=kz17);go_simp;refine w_r 8 fun K hK=>?_;go_simp
      with_reducible refine(HLS2.out _).mono ?_
      rintro e w3 ⟨rfl,hb3⟩;go_simp;refine hK.out _ _ (hSw.trans (hb3.mono hSw.size)) ?_;clear hSw hK K;intro hSw;go_simp;refine w_v 9 hSw ?_ (k:=kz17);go_simp;refine wpAnyH_done (by kernel_rfl) ?_ _;have hsv:=hSw;clear hSw KC HLS2;have hsr:=HSR.out.below hsv;generalize w3=X at *;have hc3:Chg [w.heap.size+2] V X:=hc.trans (Chg.of_below hsv [w.heap.size+2]) (fun g hg=>.inl hg);have hb3:=HB.out.below hsv;obtain⟨n5,⟨nl,nf⟩,nc,nc6⟩:=hsr.core.look H3.out.1 H3.out.2;have hjc:(j:Int) < (n3.c:Int):=by omega
      have hld:=cy1 n3.tb j _ X nl (hsr.core.ptr j (k3+1));have HLD:=H_ hld;have HF:=H_ (d_ hb3 hc3);clear hld hsr nl nf hb3 hc3 HSR;go_wp2_with fail;refine HLD.out.mono ?_;rintro e w1 ⟨rfl,rfl⟩;clear HLD;have hm:rk ns (.pointer (some ⟨n3.b,0,none⟩)) < rk ns (.pointer (some ⟨n2.b,0,none⟩)):=by
       rw[HS3.out.core.rk H3.out.1,HS3.out.core.rk HK2.out.2.1];have h1:=(G_.1 H3.out.1).1;have h2:=H4.out;omega
      go_wp2;go_roundw
      case rel=>exact⟨k3,n3,_,rfl,rfl,H_ ⟨rfl,H3.out.1,H3.out.2,hkq⟩,H_ HF.out.1,HF.out.2⟩
      case measure=>exact hm
     ·have hd1:decide (k3 < q)=false:=decide_eq_false hkq
      rw[hd1]at hless;have HLS2:=H_ hless;have KC:=H_ hkc;have HP:=H_ (show Pred ns j q i2 from ⟨HK2.out.2.2.2,⟨n2,HK2.out.2.1,HK2.out.2.2.1⟩,fun m n' h1 h2 h3=>g4 m n' h1 (by omega) h3⟩);clear hless hkc hls hd1 hxn hnd hbx hsr g1 g2 g3 g4 h3;go_wp2_with fail;simp only[aK_];refine wp_region_held_drew (S:=fun w'=>Below wr.heap.size wr w') rfl (ak b0_) (fun hSw=>?_);refine w_v 0 hSw ?_ (k:=kz17);go_simp;refine w_v 1 hSw ?_ (k:=kz17);go_simp;refine w_v 2 hSw ?_ (k:=kz17);go_simp;refine w_v 3 hSw ?_ (k:=kz17);go_simp;refine w_v 4 hSw ?_ (k:=kz17);go_simp;refine w_v 5 hSw ?_ (k:=kz17);go_simp;refine w_v 6 hSw ?_ (k:=kz17);go_simp;refine w_v 7 hSw ?_ (k:=kz17);go_simp;refine w_r 8 fun K hK=>?_;go_simp
      with_reducible refine(HLS2.out _).mono ?_
      rintro e w3 ⟨rfl,hb3⟩;go_simp;refine hK.out _ _ (hSw.trans (hb3.mono hSw.size)) ?_;clear hSw hK K;intro hSw;go_simp;refine w_v 9 hSw ?_ (k:=kz17);go_simp;refine wpAnyH_done (by kernel_rfl) ?_ _;have hsv:=hSw;clear hSw KC HLS2;generalize hXe:w3=X at *;clear hXe;have hc3:Chg [w.heap.size+2] V X:=hc.trans (Chg.of_below hsv [w.heap.size+2]) (fun g hg=>.inl hg);have hb3:=HB.out.below hsv;have h56:j < 6:=by have:=HK.out.1;omega
      obtain⟨u,hu⟩:=iv5 hb3 h56;have hz:=hb3.free j;have hst:BoxO (X.setCell ⟨w.heap.size+2,j,none⟩ (.pointer (some ⟨n2.b,0,none⟩))) 292 (w.heap.size+2) (oc ns (fun l=>if l=j then i2 else J l) j):=by
       have e:=hb3.store j (.pointer (some ⟨n2.b,0,none⟩));have e2:=uy4 ns J j i2 h56;rw[show pv ns i2=Value.pointer (some ⟨n2.b,0,none⟩) by unfold pv;rw[zz3 HK2.out.2.1]]at e2;rw[←e2];exact e
      have hc4:Chg [w.heap.size+2] V (X.setCell ⟨w.heap.size+2,j,none⟩ (.pointer (some ⟨n2.b,0,none⟩))):=hc3.setCell _ (.inl (by simp));have hj6:(j:Int) < 6:=by omega
      have HF:=H_ (d_ (show ∀l,j≤l→l < 6→Pred ns l q (if l=j then i2 else J l) from fun l h1 h2=>by
       by_cases hl:l=j
       ·subst hl
        rw[if_pos rfl];exact HP.out
       ·rw[if_neg hl]
        exact HK.out.2.2.2.2 l (by omega) h2) (d_ hst hc4))
      clear hb3 hst hc3 hc4 h56 hsv HP;go_wp2;go_roundw
      case rel=>exact⟨j,i2,n2,_,by go_num,rfl,H_ ⟨by have:=HK.out.1;omega,HK2.out.2.1,by have:=HK2.out.2.2.1;omega,HK2.out.2.2.2,HF.out.1⟩,H_ (by exact HF.out.2.1),HF.out.2.2⟩
      case measure=>simp[intOf] <;>omega
end
section
open Go Go.RowKit
end
section
open Go Go.RowKit Go.Lib
theorem nw1:∀(ns:List Nd) (i j:Nat) (n m:Nd),(ns.flatMap fun n=>[n.b,n.tb]).Nodup→ns[i]?=some n→ns[j]?=some m→(n.b=m.b→i=j)∧(n.tb=m.tb→i=j)∧n.b≠m.tb:=by
 intro ns
 induction ns with
 |nil=>intro i j n m _ hi;simp at hi
 |cons a r ih=>
  intro i j n m hd hi hj;simp only[M_,N_,y_,a3_,g_,not_or]at hd;obtain⟨⟨h1,h2⟩,h3,h4⟩:=hd;have hin:∀(k:Nat) (u:Nd),r[k]?=some u→u.b≠a.b∧u.tb≠a.b∧u.b≠a.tb∧u.tb≠a.tb:=fun k u hu=>
   ⟨fun e=>h2 (O_.2 ⟨u,p_ hu,by simp[e]⟩),fun e=>h2 (O_.2 ⟨u,p_ hu,by simp[e]⟩),fun e=>h3 (O_.2 ⟨u,p_ hu,by simp[e]⟩),fun e=>h3 (O_.2 ⟨u,p_ hu,by simp[e]⟩)⟩
  cases i with
  |zero=>
   cases j with
   |zero=>
    simp only[gE0,ax_]at hi hj;subst hi hj;exact⟨fun _=>rfl,fun _=>rfl,h1⟩
   |succ j=>
    simp only[gE0,ax_,gE1]at hi hj;subst hi;obtain⟨a1,a2,a3,a4⟩:=hin j m hj;exact⟨fun e=>absurd e.symm a1,fun e=>absurd e.symm a4,fun e=>a2 e.symm⟩
  |succ i=>
   cases j with
   |zero=>
    simp only[gE0,ax_,gE1]at hi hj;subst hj;obtain⟨a1,a2,a3,a4⟩:=hin i n hi;exact⟨fun e=>absurd e a1,fun e=>absurd e a4,a3⟩
   |succ j=>
    simp only[gE1]at hi hj;obtain⟨b1,b2,b3⟩:=ih i j n m h4 hi hj;exact⟨fun e=>by rw[b1 e],fun e=>by rw[b2 e],b3⟩
variable {w w':World} {L l j:Nat} {ns A R:List Nd} {n p:Nd}
theorem SkC.raise (h:SkC w (A++n::R)) (hn:n.h=l) (hl:l < n.c) (hj:Pred (A++n::R) l A.length j) (hp:(A++n::R)[j]?=some p):
  SkC ((w.setCell ⟨n.tb,l,none⟩ (.pointer ((nxb l ((A++n::R).drop (j+1))).map fun b=>⟨b,0,none⟩))).setCell ⟨p.tb,l,none⟩ (.pointer (some ⟨n.b,0,none⟩))) (A++{ n with h:=l+1 }::R):=by
 have hjl:=hj.lt;have hnA:(A++n::R)[A.length]?=some n:=by simp
 obtain⟨p',hp',hpl⟩:=hj.on;obtain rfl:p'=p:=by rw[hp]at hp';exact(ap_ hp').symm
 have hap:=fun(i k:Nat) (a b:Nd)=>nw1 (A++n::R) i k a b h.apart;have hpn:p'.tb≠n.tb:=fun e=>by have:=(hap j A.length p' n hp hnA).2.1 e;omega
 have hc:Chg [n.tb,p'.tb] w ((w.setCell ⟨n.tb,l,none⟩ (.pointer ((nxb l ((A++n::R).drop (j+1))).map fun b=>⟨b,0,none⟩))).setCell ⟨p'.tb,l,none⟩ (.pointer (some ⟨n.b,0,none⟩))):=((Chg.refl _ w).setCell _ (.inl (by simp))).setCell _ (.inl (by simp));have hmem:∀(i:Nat) (m:Nd),i≠A.length→((A++{ n with h:=l+1 }::R)[i]?=some m↔(A++n::R)[i]?=some m):=fun i m hi=>by
  rcases T_ i A.length with h1|h1
  ·rw[J_ h1,J_ h1]
  ·rw[Y_ h1,Y_ h1]
   obtain⟨d,hd⟩:∃d,i - A.length=d+1:=⟨i - A.length - 1,by omega⟩;rw[hd,gE1,gE1]
 have hmA:(A++{ n with h:=l+1 }::R)[A.length]?=some { n with h:=l+1 }:=by simp
 have hr:=fun(i l':Nat) (m:Nd) (hm:(A++{ n with h:=l+1 }::R)[i]?=some m) (hl':l' < m.h)=>Go.Proofs.YthjdpplgfdihoaaGreatDoor.raise (n':={ n with h:=l+1 }) hj hn rfl rfl i l' m hm hl';refine⟨fun m hm=>?_,fun i m hi=>?_,fun m hm=>?_,?_⟩
 ·obtain⟨i,hi⟩:=aV_.1 hm
  by_cases hiA:i=A.length
  ·subst hiA
   rw[hmA]at hi;obtain rfl:=ap_ hi;refine(h.node n (p_ hnA)).chg hc ?_;simp only[g_,ar_,or_false,not_or];exact⟨(hap _ _ _ _ hnA hnA).2.2,(hap _ _ _ _ hnA hp).2.2⟩
  ·rw[hmem i m hiA]at hi
   refine(h.node m (p_ hi)).chg hc ?_;simp only[g_,ar_,or_false,not_or];exact⟨(hap _ _ _ _ hi hnA).2.2,(hap _ _ _ _ hi hp).2.2⟩
 ·by_cases hiA:i=A.length
  ·subst hiA
   rw[hmA]at hi;obtain rfl:=ap_ hi;obtain⟨cs,h1,h2,h3⟩:=h.tower A.length n hnA;refine⟨_,(h1.store l _).chg (uw _ ⟨p'.tb,l,none⟩ _) (by simpa using fun e=>hpn e.symm),by rw[au_];exact h2,fun l' hl'=>?_⟩;rw[hr A.length l' _ hmA hl',if_neg (by omega)]
   by_cases hll:l'=l
   ·subst hll
    rw[if_pos ⟨rfl,rfl⟩,bh_ (by omega)]
   ·rw[if_neg (by omega),bu_ (by omega)]
    simp only at hl';exact h3 l' (by omega)
  ·have hi2:=(hmem i m hiA).1 hi
   obtain⟨cs,h1,h2,h3⟩:=h.tower i m hi2
   by_cases hij:i=j
   ·subst hij
    rw[hp]at hi2;obtain rfl:=ap_ hi2;refine⟨_,(h1.chg (uw w ⟨n.tb,l,none⟩ _) (by simpa using hpn)).store l _,by rw[au_];exact h2,fun l' hl'=>?_⟩;rw[hr i l' _ hi hl'];have:=(h.cap p' (p_ hp)).1
    by_cases hll:l'=l
    ·subst hll
     rw[if_pos ⟨rfl,rfl⟩,bh_ (by omega)];rfl
    ·rw[if_neg (by omega),if_neg (by omega),bu_ (by omega)]
     exact h3 l' hl'
   ·refine⟨cs,h1.chg hc ?_,h2,fun l' hl'=>?_⟩
    ·simp only[g_,ar_,or_false,not_or]
     exact⟨fun e=>hiA ((hap _ _ _ _ hi2 hnA).2.1 e),fun e=>hij ((hap _ _ _ _ hi2 hp).2.1 e)⟩
    ·rw[hr i l' _ hi hl',if_neg (by omega),if_neg (by omega)]
     exact h3 l' hl'
 ·obtain⟨i,hi⟩:=aV_.1 hm
  by_cases hiA:i=A.length
  ·subst hiA
   rw[hmA]at hi;obtain rfl:=ap_ hi;exact⟨hl,(h.cap n (p_ hnA)).2⟩
  ·exact h.cap m (p_ ((hmem i m hiA).1 hi))
 ·have:=h.apart
  simpa using this
theorem SkC.insert (h:SkC w (A++R)) (hn:n.h=0) (hc:n.c≤6) (hb:BoxO w 300 n.b (n.x.cells++[.slice (some ⟨n.tb,0,none⟩) n.c n.c])) (ht:BoxO w 297 n.tb (List.replicate n.c (.pointer none))) (hne:n.b≠n.tb)
  (h1:n.b∉(A++R).flatMap fun n=>[n.b,n.tb]) (h2:n.tb∉(A++R).flatMap fun n=>[n.b,n.tb]):SkC w (A++n::R):=by
 have hin:∀m,m∈A++n::R↔m=n∨m∈A++R:=fun m=>by simp[or_left_comm]
 refine⟨fun m hm=>?_,fun i m hi=>?_,fun m hm=>?_,?_⟩
 ·rcases (hin m).1 hm with rfl|h3
  ·exact hb
  ·exact h.node m h3
 ·have key:∀l,nxb l ((A++n::R).drop (i+1))=nxb l ((A++R).drop (if i < A.length then i+1 else i)):=fun l=>by
   rcases T_ i A.length with h3|h3
   ·rw[if_pos h3,ae_ (by omega),ae_ (by omega)]
    exact bq5 hn
   ·have e1:A.drop (i+1)=[]:=aq_ (by omega)
    have e2:A.drop i=[]:=aq_ (by omega);rw[if_neg (by omega),bA_,bA_,e1,e2,y_,y_,show i+1 - A.length=(i - A.length)+1 by omega,bD_]
  rcases Nat.lt_trichotomy i A.length with h3|h3|h3
  ·rw[J_ h3]at hi
   obtain⟨cs,a,b,c⟩:=h.tower i m (by rw[J_ h3];exact hi);exact⟨cs,a,b,fun l hl=>by rw[key,if_pos h3];exact c l hl⟩
  ·subst h3
   rw[Y_ l_,bF_,gE0]at hi;obtain rfl:=ap_ hi;exact⟨_,ht,by simp,fun l hl=>by omega⟩
  ·obtain⟨k,rfl⟩:∃k,i=A.length+k+1:=⟨i - A.length - 1,by omega⟩
   rw[Y_ (by omega),show A.length+k+1 - A.length=k+1 by omega,gE1]at hi;obtain⟨cs,a,b,c⟩:=h.tower (A.length+k) m (by rw[Y_ (by omega),show A.length+k - A.length=k by omega];exact hi);exact⟨cs,a,b,fun l hl=>by rw[key,if_neg (by omega)];exact c l hl⟩
 ·rcases (hin m).1 hm with rfl|h3
  ·exact⟨by omega,hc⟩
  ·exact h.cap m h3
 ·have h3:=h.apart
  rw[a4_]at h3 h1 h2 ⊢;rw[M_];refine(List.perm_append_comm_assoc _ _ _).nodup_iff.2 ?_;simp only[N_,y_,a3_,g_,not_or];exact⟨⟨hne,h1⟩,h2,h3⟩
theorem SkAt.setx {k:Nat} {x:It} (h:SkAt w L ns) (hk:ns[k+1]?=some n) (hR:uq ((its ns).set k x)) (c:Chg [n.b] w w') (hb:BoxO w' 300 n.b (x.cells++[.slice (some ⟨n.tb,0,none⟩) n.c n.c])):
  SkAt w' L (ns.set (k+1) { n with x:=x })∧its (ns.set (k+1) { n with x:=x })=(its ns).set k x∧skF L (ns.set (k+1) { n with x:=x })=skF L ns:=by
 have hkl:k+1 < ns.length:=(G_.1 hk).1;have hkg:ns[k+1]=n:=(G_.1 hk).2;have hfl:∀ns:List Nd,∀(k:Nat) (n:Nd),ns[k]?=some n→(ns.set k { n with x:=x }).flatMap (fun n=>[n.b,n.tb])=ns.flatMap fun n=>[n.b,n.tb]:=by
  intro ns
  induction ns with
  |nil=>intro k n h;simp at h
  |cons a r ih=>
   intro k n h
   cases k with
   |zero=>
    simp only[gE0,ax_]at h;subst h;simp
   |succ k=>
    rw[gE1]at h;simp[ih k n h]
 have hnx:∀ns:List Nd,∀(k l i:Nat) (n:Nd),ns[k]?=some n→nxb l ((ns.set k { n with x:=x }).drop i)=nxb l (ns.drop i):=by
  intro ns k l i n h;have hl:k < ns.length:=(G_.1 h).1;have hg:ns[k]=n:=(G_.1 h).2
  rcases T_ k i with h1|h1
  ·rw[List.drop_set_of_lt h1]
  ·rw[ci_,if_neg (by omega),aJ_,if_pos (by rw[B_];omega)]
   have e:ns.drop i=(ns.drop i).take (k - i)++n::(ns.drop i).drop (k - i+1):=by
    have h2:k - i < (ns.drop i).length:=by rw[B_];omega
    have h3:(ns.drop i)[k - i]=n:=by rw[List.getElem_drop,←hg];congr 1;omega
    rw[←h3,List.getElem_cons_drop,aa_]
   conv=>rhs;rw[e]
   exact kx3 rfl Iff.rfl
 have hap:=fun(i:Nat) (a:Nd) (hi:ns[i]?=some a)=>nw1 ns i (k+1) a n h.core.apart hi hk;have hits:its (ns.set (k+1) { n with x:=x })=(its ns).set k x:=by
  unfold its;rw[ci_,if_neg (by omega),bI_,List.map_set]
 have hget:∀(i:Nat) (m:Nd),(ns.set (k+1) { n with x:=x })[i]?=some m→(i=k+1∧m={ n with x:=x })∨(i≠k+1∧ns[i]?=some m):=fun i m hi=>by
  by_cases hik:i=k+1
  ·subst hik
   rw[bh_ (by omega)]at hi;exact .inl ⟨rfl,(ap_ hi).symm⟩
  ·rw[bu_ (by omega)]at hi
   exact .inr ⟨hik,hi⟩
 have hnt:n.tb∉[n.b]:=by
  have:=(hap (k+1) n hk).2.2;simpa using this.symm
 obtain⟨hd,tl,hns,h6,hL⟩:=h.head;have hLb:L∉[n.b]:=fun e=>h.out (O_.2 ⟨n,p_ hk,by rw[c_.1 e];simp⟩);refine⟨⟨⟨fun m hm=>?_,fun i m hi=>?_,fun m hm=>?_,?_⟩,⟨hd,tl.set k { n with x:=x },by rw[hns,ac_],h6,by rw[au_];exact hL.chg c hLb⟩,?_,fun m hm=>?_,?_⟩,hits,?_⟩
 ·obtain⟨i,hi⟩:=aV_.1 hm
  rcases hget i m hi with ⟨rfl,rfl⟩|⟨h1,h2⟩
  ·exact hb
  ·exact(h.core.node m (p_ h2)).chg c (by simpa using fun e=>h1 ((hap i m h2).1 e))
 ·rcases hget i m hi with ⟨rfl,rfl⟩|⟨h1,h2⟩
  ·obtain⟨cs,a1,a2,a3⟩:=h.core.tower _ n hk
   exact⟨cs,a1.chg c hnt,a2,fun l hl=>by rw[hnx ns (k+1) l _ n hk];exact a3 l hl⟩
  ·obtain⟨cs,a1,a2,a3⟩:=h.core.tower i m h2
   exact⟨cs,a1.chg c (by simpa using fun e=>(nw1 ns (k+1) i n m h.core.apart hk h2).2.2 e.symm),a2,fun l hl=>by rw[hnx ns (k+1) l _ n hk];exact a3 l hl⟩
 ·obtain⟨i,hi⟩:=aV_.1 hm
  rcases hget i m hi with ⟨rfl,rfl⟩|⟨h1,h2⟩
  ·exact h.core.cap n (p_ hk)
  ·exact h.core.cap m (p_ h2)
 ·rw[hfl ns (k+1) n hk]
  exact h.core.apart
 ·rw[hfl ns (k+1) n hk]
  exact h.out
 ·obtain⟨i,hi⟩:=aV_.1 hm
  rcases hget i m hi with ⟨rfl,rfl⟩|⟨h1,h2⟩
  ·exact h.tall n (p_ hk)
  ·exact h.tall m (p_ h2)
 ·rw[hits]
  exact hR
 ·unfold skF
  rw[hfl ns (k+1) n hk]
end
end Go.Proofs.YthjdpplgfdihoaaGreatDoor
