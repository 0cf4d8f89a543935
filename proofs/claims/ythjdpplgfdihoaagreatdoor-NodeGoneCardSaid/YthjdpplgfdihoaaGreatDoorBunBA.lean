/- Texts MergeR, TabR, AllN in one. No conditions. -/
import Derived.Test.YthjdpplgfdihoaaGreatDoorBunAX

set_option linter.unusedSimpArgs false
set_option linter.unusedVariables false
set_option maxRecDepth 100000
set_option maxHeartbeats 16000000
namespace Go.Proofs.YthjdpplgfdihoaaGreatDoor
section
open Go Go.RowKit Go.Lib Go.Shelf
theorem gz3:(Tryz.prog.info? 31).map (fun i=>(i.zero,i.size,i.bytes))=some (some (.slice none 0 0),1,24):=by kernel_rfl
theorem sq3 (A:Option Addr) (n c:Nat) (vs:List Value) (w:World) (hn:n≤1000000) (h0:A=none→n=0∧c=0) (h1:∀u∈vs,u.oneCell'=true) (hr:Row w.heap.size w A n 1 vs):
  Calls Tryz.prog 162 #[.slice A n c] w fun e w'=>∃A' c',e=.returned (.slice A' n c')∧w'.ownsRow w.heap.size 31 1 (.slice A' n c') n vs∧Below w.heap.size w w':=by
 obtain⟨i0,hi0,hz0,hz1,hz2⟩:=info_parts gz3;have HR:=H_ hr;have H1:=H_ h1;have hlen:=hr.len;clear hr h1
 cases A with
 |none=>
  obtain⟨rfl,rfl⟩:=h0 rfl;have hq:vs=[]:=U_.1 (by omega);subst hq;clear HR hlen;have hnil:∀W,(binOp .eql 44 (.slice none 0 0) (.slice none 0 0)).run Tryz.prog W=.ok (.bool true) W:=fun W=>by kernel_rfl
  go_enter Tryz.func162,Tryz.ntmps162;go_wp2;go_ret;exact⟨none,0,rfl,E_ _ _ _ _,Below.refl _ _⟩
 |some p=>
  clear hlen h0;go_enter Tryz.func162,Tryz.ntmps162;have ho0:(w.alloc (.cells #[] 31)).ownsRow w.heap.size 31 1 (.slice (some ⟨w.heap.size,0,none⟩) 0 0) 0 []:=⟨rfl,.inr ⟨w.heap.size,0,#[],rfl,x_ _,heap_alloc_new w _,x_ _,by decide,rfl,rfl⟩⟩;have hb0:=b_ w (.cells #[] 31);have HO:=H_ ho0;have HB:=H_ hb0;have HR2:=H_ (HR.out.below hb0);clear ho0 hb0;have hnil:∀W,(binOp .eql 44 (.slice (some p) n c) (.slice none 0 0)).run Tryz.prog W=.ok (.bool false) W:=fun W=>Lib.run_eql_slice_some_nil (e:=31) W _ _ _ (by kernel_rfl);go_wp2_with (at_builtin;refine iy ?_);refine gz (jq rfl (.tmp 5) (.tmp 6) _ rfl w.heap.size 31 i0 _ 1 24 Tryz.underlying44 hi0 hz0 hz1 hz2 rfl (by omega) w HB.out HB.out.size _ 0 [] rfl HO.out w.heap.size _ n c vs rfl HR2.out H1.out n _ (ag_ n) (y_ _) (by unfold maxLen;omega) (by omega) ?_);intro A3 c3 w3 z1 z2 z3 z4 z5;have HF:=H_ z1;clear z1 z3 HO HB HR2;go_wp2;go_ret;exact⟨A3,c3,rfl,HF.out,z2⟩
theorem ww1 (b:Addr):b.add (0 *5)=b:=by cases b;simp[Addr.add]
def RIn (B:Nat) (w:World) (vs:List Value) (ls:List (List It)):Prop:=ls.length=vs.length∧∀i (h:i < ls.length),∃A k c,vs[i]?=some (.slice A k c)∧k≤c∧c≤maxLen∧Row B w A k 5 (itc ls[i])
def aw5:Option Value→Nat
 |some (.slice _ k _)=>k
 |_=>0
def leftOf (A:Option Addr) (n:Nat) (W:World):Nat:=match A with
 |none=>0
 |some a=>((List.range n).map fun i=>aw5 (W.cell? (a.add i))).sum
theorem jj1 {B B' n:Nat} {w W:World} {A:Option Addr} {vs:List Value} {ls:List (List It)} (h:Row B W A n 1 vs) (hi:RIn B' w vs ls):leftOf A n W=Mg.tot ls:=by
 have hl:vs.length=n:=by have:=h.len;omega
 have hll:=hi.1
 cases A with
 |none=>
  have h0:n=0:=by
   rcases ad_ n with h0|h0
   ·exact h0
   ·obtain⟨a,v,e,_⟩:=h.at1 h0
    cases e
  have:ls=[]:=U_.1 (by omega);subst this;rfl
 |some a=>
  have e:(List.range n).map (fun i=>aw5 (W.cell? (a.add i)))=ls.map List.length:=by
   refine List.ext_getElem (by simp;omega) fun i h1 h2=>?_;simp only[List.getElem_map,List.getElem_range];have hin:i < n:=by simpa using h1
   obtain⟨a',v,e,_,hv,hc⟩:=h.at1 hin;injection e with e;subst e;obtain⟨A,k,c,e1,_,_,hrow⟩:=hi.2 i (by omega);rw[e1]at hv;injection hv with hv;subst hv;rw[hc];exact hrow.uz.symm
  show ((List.range n).map fun i=>aw5 (W.cell? (a.add i))).sum=_
  rw[e];rfl
theorem RIn.set {B:Nat} {w:World} {vs:List Value} {ls:List (List It)} (h:RIn B w vs ls) {j k c:Nat} {A:Option Addr} {r:List It} (hk:k≤c) (hc:c≤maxLen) (hr:Row B w A k 5 (itc r)):RIn B w (vs.set j (.slice A k c)) (ls.set j r):=by
 refine⟨by simp[h.1],fun i hi=>?_⟩;simp only[au_]at hi;have hl:=h.1
 by_cases e:j=i
 ·subst e
  refine⟨A,k,c,?_,hk,hc,?_⟩
  ·rw[bh_ (by omega)]
  ·rw[List.getElem_set_self];exact hr
 ·obtain⟨A',k',c',e1,e2,e3,e4⟩:=h.2 i hi
  refine⟨A',k',c',?_,e2,e3,?_⟩
  ·rw[bu_ e];exact e1
  ·rw[List.getElem_set_ne e];exact e4
structure MI (w wr:World) (A:Option Addr) (n c:Nat) (vs:List Value) (ls:List (List It)) (A2:Option Addr) (q c2:Nat) (out:List It):Prop where
 own:wr.ownsRow w.heap.size 31 1 (.slice A n c) n vs
 inn:RIn w.heap.size w vs ls
 ow2:wr.ownsRow w.heap.size 36 5 (.slice A2 q c2) q (itc out)
 bl:Below w.heap.size w wr
 len:q=out.length
theorem MI.ln {w wr:World} {A A2:Option Addr} {n c q c2:Nat} {vs:List Value} {ls:List (List It)} {out:List It} (h:MI w wr A n c vs ls A2 q c2 out):ls.length=n:=by
 have:=h.own.1;have:=h.inn.1;omega
theorem MI.row {w wr:World} {A A2:Option Addr} {n c q c2:Nat} {vs:List Value} {ls:List (List It)} {out:List It} (h:MI w wr A n c vs ls A2 q c2 out) {i:Nat} (hi:i < n):
  ∃g B k d,A=some ⟨g,0,none⟩∧w.heap.size≤g∧g < wr.heap.size∧wr.cell? ⟨g,i,none⟩=some (.slice B k d)∧k≤d∧d≤maxLen∧k=(ls.getD i []).length∧Row w.heap.size w B k 5 (itc (ls.getD i []))∧i < c∧c≤maxLen:=by
 cases A with
 |none=>have:=(qj4 h.own).1;omega
 |some a=>
  obtain⟨g,cur,e,hb,hbx,hcl,hnc,hcm,htk⟩:=gw1 h.own;subst e;have hli:=h.ln;obtain⟨B,k,d,e1,e2,e3,e4⟩:=h.inn.2 i (by omega);have hg:ls.getD i []=ls[i]'(by omega):=by rw[C_,j_ (by omega)];rfl
  refine⟨g,B,k,d,rfl,hb,hbx.lt,?_,e2,e3,?_,?_,by omega,hcm⟩
  ·rw[hbx.cell,←e1,←htk,aI_,if_pos (by omega)]
  ·rw[hg];exact e4.uz.symm
  ·rw[hg];exact e4
theorem bz2 {w:World} {g:Nat} {xs ys:List Value} (h:BoxO w 31 g xs) (k:BoxO w 36 g ys):False:=by
 have h':w.heap[g]?=some (.cells xs.toArray 31 (0,0)):=h;have k':w.heap[g]?=some (.cells ys.toArray 36 (0,0)):=k;rw[h']at k';injection k' with k';injection k' with _ k' _;exact absurd k' (by decide)
theorem MI.apart {w wr:World} {A2:Option Addr} {n c q c2 g:Nat} {vs:List Value} {ls:List (List It)} {out:List It} (h:MI w wr (some ⟨g,0,none⟩) n c vs ls A2 q c2 out):∀g',(Value.slice A2 q c2).ownBlock=some g'→g'≠g:=by
 intro g' hg' e;subst e;obtain⟨g1,cur,e1,_,hb1,_⟩:=gw1 h.own;injection e1 with e1;subst e1
 cases A2 with
 |none=>cases hg'
 |some a=>
  obtain⟨g2,cur2,e2,_,hb2,_⟩:=gw1 h.ow2;subst e2;injection hg' with hg';subst hg';exact bz2 hb1 hb2
theorem MI.drewN {w U:World} {A A2:Option Addr} {n c q c2:Nat} {vs:List Value} {ls:List (List It)} {out:List It} (h:MI w U A n c vs ls A2 q c2 out) (k:Nat):MI w (U.drewN k) A n c vs ls A2 q c2 out:=⟨own_below h.own (below_drewN b0_ k),h.inn,own_below h.ow2 (below_drewN b0_ k),below_drewN h.bl k,h.len⟩
theorem MI.go {w U U':World} {A A2:Option Addr} {n c q c2:Nat} {vs:List Value} {ls:List (List It)} {out:List It} (h:MI w U A n c vs ls A2 q c2 out) (hb:Below U.heap.size U U'):MI w U' A n c vs ls A2 q c2 out:=⟨own_below h.own hb,h.inn,own_below h.ow2 hb,az h.bl hb,h.len⟩
theorem MI.store {w wr W:World} {A2 BB:Option Addr} {n c q c2 g j k d:Nat} {vs:List Value} {ls:List (List It)} {out r:List It} (h:MI w wr (some ⟨g,0,none⟩) n c vs ls A2 q c2 out) (hb:Below wr.heap.size wr W)
  (hk:k≤d) (hd:d≤maxLen) (hr:Row w.heap.size w BB k 5 (itc r)):MI w (W.setCell ⟨g,j,none⟩ (.slice BB k d)) (some ⟨g,0,none⟩) n c (vs.set j (.slice BB k d)) (ls.set j r) A2 q c2 out:=by
 obtain⟨g1,cur,e1,hg,hbx,hcl,hnc,hcm,htk⟩:=gw1 (own_below h.own hb);injection e1 with e1;subst e1;have hs:=hbx.store j (.slice BB k d);have ho:=uk3 hg hs (n:=n) (c:=c) (size:=1) (by rw[au_];exact hcl) hnc hcm;rw[List.take_set,htk]at ho;have ha:=h.apart;refine⟨ho,h.inn.set hk hd hr,jv (own_below h.ow2 hb) (uw W ⟨g,j,none⟩ (.slice BB k d)) (fun g' hg' hm=>ha g' hg' (c_.1 hm)),?_,h.len⟩;exact(az h.bl hb).setCell hg _
theorem MI.more {w U U1 W:World} {A2 A3:Option Addr} {n c q c2 c3 g:Nat} {vs:List Value} {ls:List (List It)} {out out3:List It} (h:MI w U (some ⟨g,0,none⟩) n c vs ls A2 q c2 out) (hU:Below U.heap.size U U1)
  (hg:U1.grownBy W (Value.slice A2 q c2).ownBlock) (ho:W.ownsRow w.heap.size 36 5 (.slice A3 (q+1) c3) (q+1) (itc out3)) (hb:Below w.heap.size w W) (hl:q+1=out3.length):MI w W (some ⟨g,0,none⟩) n c vs ls A3 (q+1) c3 out3:=by
 have ha:=h.apart;refine⟨jv (own_below h.own hU) (Chg.pz (F:=(Value.slice A2 q c2).ownBlock.toList) hg (fun b hb=>by rw[hb];simp)) (fun g' hg' hm=>?_),h.inn,ho,hb,hl⟩;have e:g'=g:=by injection hg' with e;exact e.symm
 exact ha g' (by simpa using hm) e
theorem MI.over {w U:World} {n c q c2 g g2:Nat} {vs:List Value} {ls:List (List It)} {out:List It} (h:MI w U (some ⟨g,0,none⟩) n c vs ls (some ⟨g2,0,none⟩) (q+1) c2 out) (x:It):
  MI w (U.setCells g2 (q *5) x.cells) (some ⟨g,0,none⟩) n c vs ls (some ⟨g2,0,none⟩) (q+1) c2 (out.dropLast++[x]):=by
 have hlen:=h.len;have ha:=h.apart g2 rfl;obtain⟨g1,cur,e1,hg,hbx,hcl,hnc,hcm,htk⟩:=gw1 h.ow2;injection e1 with e1;subst e1;have hs:=BoxO.stores x.cells (q *5) U cur hbx (by rw[x.bz,hcl];omega);have hc:Chg [g2] U (U.setCells g2 (q *5) x.cells):=(((((Chg.refl [g2] U).setCell _ (.inl (by simp))).setCell _ (.inl (by simp))).setCell _ (.inl (by simp))).setCell _ (.inl (by simp))).setCell _ (.inl (by simp));have ho:=uk3 hg hs (n:=q+1) (c:=c2) (size:=5) (by simp only[e_,u_,B_,x.bz,hcl];omega) hnc hcm;have e2:(cur.take (q *5)++(x.cells++cur.drop (q *5+x.cells.length))).take ((q+1)*5)=itc (out.dropLast++[x]):=by
  have e3:cur.take (q *5)=itc out.dropLast:=by
   rw[List.dropLast_eq_take,←hlen,bz1,←htk,aE_,show min ((q+1 - 1)*5) ((q+1)*5)=q *5 by omega]
  have e4:(itc out.dropLast).length=q *5:=by rw[iw,bT_,←hlen];rfl
  rw[e3,List.take_append,e4,i_ (by rw[e4];omega),show (q+1)*5 - q *5=5 by omega,qw]
  congr 1
 rw[e2]at ho;refine⟨jv h.own hc (fun g' hg' hm=>?_),h.inn,ho,?_,by rw[e_,bT_,←hlen];rfl⟩
 ·have e:g=g':=by injection hg'
  exact ha ((c_.1 hm).symm.trans e.symm)
 ·exact((((h.bl.setCell hg _).setCell hg _).setCell hg _).setCell hg _).setCell hg _
theorem kz39 {P S a oi v} (h:Hv P S a oi v:=by intro w hSw;(obtain⟨z1,z2,⟨x0,x1,x2,x3,x4⟩,y0,y1,y2,y3,y4⟩:=KC.out w hSw);go_simp;try (with_reducible rfl)):Hv P S a oi v:=h
theorem kz40 {P S a oi v} (h:Hv P S a oi v:=by intro w hSw;(obtain⟨⟨x0,x1,x2,x3,x4⟩,y0,y1,y2,y3,y4⟩:=KC.out w hSw);go_simp;try (with_reducible rfl)):Hv P S a oi v:=h
theorem vq2 (A:Option Addr) (n c:Nat) (ls:List (List It)) (wi:World) (hn:n≤1000000) (htot:Mg.tot ls≤1000000) (h0:A=none→n=0∧c=0) (hr:jv1 wi.heap.size wi A n ls):
  Calls Tryz.prog 85 #[.slice A n c] wi (mv1 wi (Mg.rows ls)):=by
 obtain⟨i0,hi0,hz0,hz1,hz2⟩:=info_parts rq;obtain⟨vs,hrow,hlen,hin⟩:=hr;have hvl:=hrow.len;have h1:∀u∈vs,u.oneCell'=true:=by
  intro u hu;obtain⟨i,hi,rfl⟩:=bt_.1 hu;obtain⟨B,k,d,e,_⟩:=hin i (by omega);rw[j_ hi]at e;injection e with e;rw[e];rfl
 have hinn:RIn wi.heap.size wi vs ls:=⟨by omega,hin⟩;have HI:=H_ hinn;have HC:=H_ (sq3 A n c vs wi hn h0 h1 hrow);clear hin h1 hrow h0 hinn hvl;go_enter Tryz.func85,Tryz.ntmps85;go_wp2_with fail;refine HC.out.mono ?_;rintro e w1 ⟨A',c',rfl,ho,hb⟩;have HQ0:=H_ (show MI wi w1 A' n c' vs ls none 0 0 []∧Mg.run (Mg.tot ls) ls []=Mg.rows ls∧([]:List It).length+Mg.tot ls≤1000000 from ⟨⟨ho,HI.out,E_ _ _ _ _,hb,rfl⟩,rfl,by simpa using htot⟩);clear ho hb HI HC;go_wp2
 go_loopw [3] (fun o wr=>∃ls' out vs' A2 q c2,o=.slice A2 q c2∧Hid (MI wi wr A' n c' vs' ls' A2 q c2 out∧Mg.run (Mg.tot ls') ls' out=Mg.rows ls∧out.length+Mg.tot ls'≤1000000)) (fun _ wr=>leftOf A' n wr)
 case atStart=>exact⟨ls,[],vs,none,0,0,rfl,HQ0⟩
 case round=>
  obtain⟨ls',out,vs',A2,q,c2,rfl,HQ⟩:=hrel;clear HQ0;go_wp2
  go_loopw [5,14] (fun a i wq=>∃k:Nat,k≤n∧a=.int .i64 (Mg.at_ (Mg.sel ls' k))∧i=.int .i64 (k:Int)∧Below wr.heap.size wr wq) (fun _ i _=>n - (intOf i).toNat)
  case atStart=>exact⟨0,by omega,rfl,rfl,Below.refl _ _⟩
  case round=>
   obtain⟨k,hk,rfl,rfl,hbl⟩:=hrel
   by_cases hlt:k < n
   ·obtain⟨g,B,kk,d,eA,hg0,hg1,hcell,hkd,hdm,hkl,hrow,hic,hcm⟩:=HQ.out.1.row hlt
    subst eA;have hc2:=(hbl.cell (p:=⟨g,k,none⟩) hg1).trans hcell;have hki:(k:Int) < (n:Int):=by omega
    cases e:ls'.getD k [] with
    |nil=>
     rw[e]at hkl;simp only[R_]at hkl;subst hkl;have hs:Mg.sel ls' (k+1)=Mg.sel ls' k:=by
      show (if Mg.hd ls' (Mg.sel ls' k) (ls'.getD k [])=true then some k else Mg.sel ls' k)=_
      rw[e];rfl
     have HS:=H_ hs;clear hrow hs e hcell HQ;go_wp2_with fail
     go_quiet (fail)
     go_wp2;go_roundw
     case rel=>exact⟨k+1,by omega,by rw[HS.out],by go_num,below_drewN hbl _⟩
     case measure=>simp[intOf];omega
    |cons x r=>
     rw[e]at hkl hrow;simp only[r_]at hkl;have hk0:(0:Int) < (kk:Int):=by omega
     have hk1:0 < kk:=by omega
     obtain⟨b,hl,rfl,hbk,hat⟩:=hrow.it (k:=0) hk1;simp only[aP_]at hat
     cases es:Mg.sel ls' k with
     |none=>
      have hs:Mg.sel ls' (k+1)=some k:=by
       show (if Mg.hd ls' (Mg.sel ls' k) (ls'.getD k [])=true then some k else Mg.sel ls' k)=_
       rw[e,es];rfl
      have HS:=H_ hs;clear hrow hs e hcell HQ hat es;unfold Mg.at_;go_wp2_with fail
      go_quiet (fail)
      go_wp2;go_roundw
      case rel=>exact⟨k+1,by omega,(by rw[HS.out]),by go_num,below_drewN hbl _⟩
      case measure=>simp[intOf];omega
     |some j=>
      obtain⟨hjk,y,r2,ey⟩:=Mg.ij3 es;obtain⟨g',B2,k2,d2,eA,_,hg2,hcell2,hkd2,hdm2,hkl2,hrow2,hic2,_⟩:=HQ.out.1.row (i:=j) (by omega);injection eA with eA;injection eA with eA;subst eA;rw[ey]at hkl2 hrow2;simp only[r_]at hkl2;have hk2:(0:Int) < (k2:Int):=by omega
      have hk3:0 < k2:=by omega
      obtain⟨b2,hl2,rfl,hbk2,hat2⟩:=hrow2.it (k:=0) hk3;simp only[aP_]at hat2;have hs:Mg.sel ls' (k+1)=if x.less y=true then some k else some j:=by
       show (if Mg.hd ls' (Mg.sel ls' k) (ls'.getD k [])=true then some k else Mg.sel ls' k)=_
       rw[e,es];show (if (match ls'.getD j [] with|[]=>false|y::_=>x.less y)=true then _ else _)=_
       rw[ey]
      have hls:=fun W=>ez1 x y W;obtain⟨bb,hbb⟩:=n_ (x.less y);rw[←hbb]at hs hls;unfold It.val at hls;have hjn:(j:Int) < (n:Int):=by omega
      have hj1:((j:Int) < 0)=False:=eq_false (by omega);have hbw:=HQ.out.1.bl;have hkc:∀w',Below wr.heap.size wr w'→(w'.cell? ⟨g,k,none⟩=some (.slice (some b) kk d))∧(w'.cell? ⟨g,j,none⟩=some (.slice (some b2) k2 d2))∧(w'.cell? (b.add (0 *5))=some (.int .i64 x.s)∧w'.cell? ⟨(b.add (0 *5)).block,(b.add (0 *5)).off+1,none⟩=some (.int .i64 x.k)∧w'.cell? ⟨(b.add (0 *5)).block,(b.add (0 *5)).off+2,none⟩=some (.int .u64 (x.t:Int))∧w'.cell? ⟨(b.add (0 *5)).block,(b.add (0 *5)).off+3,none⟩=some (.int .u64 (x.v:Int))∧w'.cell? ⟨(b.add (0 *5)).block,(b.add (0 *5)).off+4,none⟩=some (.int .i64 x.x))∧w'.cell? (b2.add (0 *5))=some (.int .i64 y.s)∧w'.cell? ⟨(b2.add (0 *5)).block,(b2.add (0 *5)).off+1,none⟩=some (.int .i64 y.k)∧w'.cell? ⟨(b2.add (0 *5)).block,(b2.add (0 *5)).off+2,none⟩=some (.int .u64 (y.t:Int))∧w'.cell? ⟨(b2.add (0 *5)).block,(b2.add (0 *5)).off+3,none⟩=some (.int .u64 (y.v:Int))∧w'.cell? ⟨(b2.add (0 *5)).block,(b2.add (0 *5)).off+4,none⟩=some (.int .i64 y.x):=fun w' hb=>by
       have hb':=az hbl hb;have h1:=hat.below (B:=wi.heap.size) (w':=w') hbk (az hbw hb');have h2:=hat2.below (B:=wi.heap.size) (w':=w') hbk2 (az hbw hb');exact⟨(hb'.cell (p:=⟨g,k,none⟩) hg1).trans hcell,(hb'.cell (p:=⟨g,j,none⟩) hg2).trans hcell2,⟨h1.c0,h1.c1,h1.c2,h1.c3,h1.c4⟩,h2.c0,h2.c1,h2.c2,h2.c3,h2.c4⟩
      simp only[ww1]at hkc;have KC:=H_ hkc;have HS:=H_ hs;have HLS:=H_ hls;clear hkc hs hls hrow hrow2 e es ey hcell hcell2 HQ hat hat2 hbb hbw hbk hbk2 hl hl2;unfold Mg.at_;go_wp2_with fail;refine wp_region_held_drew (S:=fun w'=>Below wr.heap.size wr w') rfl (ak b0_) (fun hSw=>?_);refine w_v 0 hSw ?_ (k:=kz39);go_simp;refine w_v 1 hSw ?_ (k:=kz39);go_simp;refine w_v 2 hSw ?_ (k:=kz39);go_simp;refine w_v 3 hSw ?_ (k:=kz39);go_simp;refine w_v 4 hSw ?_ (k:=kz39);go_simp;refine w_v 5 hSw ?_ (k:=kz39);go_simp;refine w_v 6 hSw ?_ (k:=kz39);go_simp;refine w_v 7 hSw ?_ (k:=kz39);go_simp;refine w_v 8 hSw ?_ (k:=kz39);go_simp;refine w_v 9 hSw ?_ (k:=kz39);go_simp;refine w_v 10 hSw ?_ (k:=kz39);go_simp;refine w_v 11 hSw ?_ (k:=kz39);go_simp;refine w_v 12 hSw ?_ (k:=kz39);go_simp;refine w_v 13 hSw ?_ (k:=kz39);go_simp;refine w_v 14 hSw ?_ (k:=kz39);go_simp;refine w_v 15 hSw ?_ (k:=kz39);go_simp;refine w_r 16 fun K hK=>?_;go_simp
      with_reducible refine(HLS.out _).mono ?_
      rintro e w3 ⟨rfl,hb3⟩;go_simp;refine hK.out _ _ (hSw.trans (hb3.mono hSw.size)) ?_;clear hSw hK K;intro hSw;go_simp;refine w_v 17 hSw ?_ (k:=kz39);go_simp;refine w_v 18 hSw ?_ (k:=kz39);go_simp;refine wpAnyH_done (by kernel_rfl) ?_ _;have hby:=az hbl hSw;clear hSw KC HLS
      cases bb with
      |true=>
       go_wp2;go_roundw
       case rel=>exact⟨k+1,by omega,(by rw[HS.out];rfl),by go_num,hby⟩
       case measure=>simp[intOf];omega
      |false=>
       go_wp2;go_roundw
       case rel=>exact⟨k+1,by omega,(by rw[HS.out];rfl),by go_num,hby⟩
       case measure=>simp[intOf];omega
   ·obtain rfl:k=n:=by omega
    have hki:((k:Int) < (k:Int))=False:=eq_false (by omega);have hln:=HQ.out.1.ln
    cases es:Mg.sel ls' k with
    |none=>
     have hR:=HQ.out.2.1;rw[Mg.ly4 (by rw[hln];exact es)]at hR;obtain⟨A3,c3,hv,hqc,hqm,hlow⟩:=dw HQ.out.1.ow2;injection hv with e1 e2 e3;subst e1 e3;have hits:Its wi.heap.size wr A2 q q (Mg.rows ls):=⟨by rw[←hR];exact Row.below (Row.own HQ.out.1.ow2) hbl|>.up hbl.size,x_ _,by omega,fun p hp=>(hlow p hp).1⟩;have HFF:=H_ (d_ (show q=(Mg.rows ls).length by rw[←hR];exact HQ.out.1.len) (d_ hits (az HQ.out.1.bl hbl)));have HK:=H_ (kk1 A2 q c2 wr hqc);clear hits hR hqc hqm hlow HQ es;unfold Mg.at_;go_wp2_with fail;refine HK.out.mono ?_;rintro e w2 ⟨rfl,rfl⟩;go_wp2;go_ret;exact⟨A2,q,q,rfl,HFF.out⟩
    |some j=>
     obtain⟨hjk,x,r,ex⟩:=Mg.ij3 es;obtain⟨g,B,kk,d,eA,hg0,hg1,hcell,hkd,hdm,hkl,hrow,hic,hcm⟩:=HQ.out.1.row hjk;subst eA;rw[ex]at hkl hrow;simp only[r_]at hkl;have hk0:(0:Int) < (kk:Int):=by omega
     have hk1:0 < kk:=by omega
     obtain⟨b,hl,rfl,hbk,hat⟩:=hrow.it (k:=0) hk1;simp only[aP_]at hat;have hat2:=hat.below (B:=wi.heap.size) hbk (az HQ.out.1.bl hbl);obtain⟨x0,x1,x2,x3,x4⟩:=hat2;simp only[ww1]at x0 x1 x2 x3 x4;have hc2:=(hbl.cell (p:=⟨g,j,none⟩) hg1).trans hcell;have hbo:=b_ wr (.cells #[.int .i64 x.s,.int .i64 x.k,.int .u64 (x.t:Int),.int .u64 (x.v:Int),.int .i64 x.x] 36);have hbx:BoxO (wr.alloc (.cells #[.int .i64 x.s,.int .i64 x.k,.int .u64 (x.t:Int),.int .u64 (x.v:Int),.int .i64 x.x] 36)) 36 wr.heap.size x.cells:=BoxO.new wr #[.int .i64 x.s,.int .i64 x.k,.int .u64 (x.t:Int),.int .u64 (x.v:Int),.int .i64 x.x] 36;have hc3:=(hbo.cell (p:=⟨g,j,none⟩) (L_ hg1 hbl.size)).trans hc2;have hfr:(wr.alloc (.cells #[.int .i64 x.s,.int .i64 x.k,.int .u64 (x.t:Int),.int .u64 (x.v:Int),.int .i64 x.x] 36)).frozen? ⟨g,j,none⟩=false:=by
      obtain⟨g',cur,e,_,hbx,_⟩:=gw1 (own_below (own_below HQ.out.1.own hbl) hbo);injection e with e;subst e;exact hbx.free j
     have hjn:(j:Int) < (k:Int):=by omega
     have hj1:((j:Int) < 0)=False:=eq_false (by omega);have hd1:(1:Int)≤(kk:Int):=by omega
     have hcut:∀BB:Option Addr,(1 < kk→BB=(some b).map (·.add (1 *5)))→Row wi.heap.size wi BB r.length 5 (itc r):=fun BB h=>by
      have h2:=hrow.lq5 (k:=1) (m:=kk) (by omega) l_ h;have e5:((x::r).drop 1).take (kk - 1)=r:=by rw[List.drop_one,List.tail_cons,i_ (by omega)]
      rw[e5]at h2
      rwa [show kk - 1=r.length by omega]at h2
     have hN:=fun(BB:Option Addr) (d':Nat) (h1:r.length≤d') (h2:d'≤maxLen) (h3:Row wi.heap.size wi BB r.length 5 (itc r))=>MI.store (j:=j) HQ.out.1 (az hbl hbo) h1 h2 h3;have hN1:=fun(h:d=1)=>hN (some b) 0 (by omega) (by omega) (hcut _ (fun h=>by omega));have hN2:=hN (some ⟨b.block,b.off+5,none⟩) (d - 1) (by omega) (by omega) (hcut _ (fun _=>by rw[aK_,show 1 *5=0 *5+5 from rfl,mw2 b (0 *5) (by omega),ww1]));have hrun:Mg.run (Mg.tot (ls'.set j r)) (ls'.set j r) (Mg.put out x)=Mg.rows ls:=by rw[←Mg.mj4 (by rw[hln];exact es) ex];exact HQ.out.2.1
     have htt:=Mg.bq3 (ls:=ls') (j:=j) (by omega) ex;have hleft:=jj1 (Row.own HQ.out.1.own) HQ.out.1.inn;have RUN:=H_ (d_ hrun (d_ htt (d_ hleft HQ.out.2.2)));have hbU:=fun v=>hbx.chg (uw (wr.alloc (.cells #[.int .i64 x.s,.int .i64 x.k,.int .u64 (x.t:Int),.int .u64 (x.v:Int),.int .i64 x.x] 36)) ⟨g,j,none⟩ v) (by have:=L_ hg1 hbl.size;simp only[c_];omega);have HN1:=H_ hN1;have HN2:=H_ hN2;have HBU:=H_ hbU;have hdm1:d=1∨¬d=1:=by omega
     clear hat hl hcut hN hN1 hN2 hrun htt hleft hbU hbo hbx HQ hrow hcell es ex;unfold Mg.at_;go_wp2_with fail
     all_goals
      first
       |(have hm2:=HN1.out (by assumption);have hb2:=HBU.out (.slice (some b) r.length 0))
       |(have hm2:=HN2.out;have hb2:=HBU.out (.slice (some ⟨b.block,b.off+5,none⟩) r.length (d - 1)))
      clear HN1 HN2 HBU;generalize World.setCell _ _ _=U at *;clear x0 x1 x2 x3 x4 hc2 hc3 hfr;generalize wr.heap.size=g8 at *;generalize List.set vs' _ _=vs2 at *;obtain⟨ls2,hls2⟩:=n_ (ls'.set j r);rw[←hls2]at hm2 RUN;clear hls2
      rcases ad_ q with h0|h0
      ·subst h0
       have ho:out=[]:=U_.1 hm2.len.symm;have PUT:=H_ (show Mg.put out x=out++[x] by rw[ho];rfl)
       go_quiet (fail)
       have hm2:=hm2.drewN nq;have hb2:=hb2.drewN nq;generalize U.drewN nq=U at *;have b0:=hb2.cell 0;have b1:=hb2.cell 1;have b2:=hb2.cell 2;have b3:=hb2.cell 3;have b4:=hb2.cell 4;simp only[It.cells,gE0,gE1]at b0 b1 b2 b3 b4;have hvb:BoxO (U.alloc (.cells #[.int .i64 x.s,.int .i64 x.k,.int .u64 (x.t:Int),.int .u64 (x.v:Int),.int .i64 x.x] 36)) 36 U.heap.size x.cells:=BoxO.new U #[.int .i64 x.s,.int .i64 x.k,.int .u64 (x.t:Int),.int .u64 (x.v:Int),.int .i64 x.x] 36;have hbA:=b_ U (.cells #[.int .i64 x.s,.int .i64 x.k,.int .u64 (x.t:Int),.int .u64 (x.v:Int),.int .i64 x.x] 36);have ho4:=own_below hm2.ow2 hbA;have hb4:=az hm2.bl hbA;have hrow9:=lx1 hvb;have HX:=H_ (show itc out++x.cells=itc (out++[x]) by rw[qw];simp[itc]);have HR9:=H_ hrow9;have HO:=H_ ho4;have HB:=H_ hb4;have HM:=H_ (d_ hm2 hbA);have hqb:0+1≤1000000:=by have:=HM.out.1.len;have:=RUN.out;omega
       clear hrow9 hvb hbA hb4 ho4 hm2 hb2;go_wp2_with (at_builtin;refine iy ?_);refine gz (jq rfl (.tmp 73) (.tmp 75) _ rfl wi.heap.size 36 i0 _ 5 40 Tryz.underlying31 hi0 hz0 hz1 hz2 rfl (by omega) wi HB.out HB.out.size _ (0) (itc out) rfl HO.out (U.alloc (.cells #[.int .i64 x.s,.int .i64 x.k,.int .u64 (x.t:Int),.int .u64 (x.v:Int),.int .i64 x.x] 36)).heap.size _ 1 1 x.cells rfl HR9.out (fun v hv=>xq [x] v (by simpa [itc] using hv)) (0+1) _ rfl HX.out (by unfold maxLen;omega) (by omega) ?_);intro A3 c3 w5 h1 h2 h3 h4 h5;have hm3:=MI.more HM.out.1 HM.out.2 h3 h1 h2 (by rw[e_,←HM.out.1.len];rfl);have hl3:=jj1 (Row.own hm3.own) hm3.inn;have HM3:=H_ (d_ hm3 hl3);clear h1 h2 h3 h4 h5 HX HR9 HO HB HM hm3 hl3;go_wp2;go_roundw
       case rel=>exact⟨_,_,_,A3,0+1,c3,rfl,H_ ⟨HM3.out.1,PUT.out▸RUN.out.1,by have:=RUN.out;have:=HM3.out.1.len;omega⟩⟩
       case measure=>rw[HM3.out.2,RUN.out.2.2.1];have:=RUN.out;omega
      ·obtain⟨p,rfl⟩:∃p,q=p+1:=⟨q - 1,by omega⟩
       have hq1:(((p+1:Nat):Int)==0)=false:=beq_eq_false_iff_ne.2 (by omega);obtain⟨a2,hlo,rfl,hb2k,hat⟩:=(Row.own hm2.ow2).it (k:=p) (by omega);clear hat hb2k;obtain⟨g2,cur,e,_,hbx2,hcl2,hnc2,hcm2,htk2⟩:=gw1 hm2.ow2;subst e;have hgl:out.getLast?=some out[p]:=by rw[List.getLast?_eq_getElem?,←hm2.len];exact j_ hlo
       have hcells:∀j,j < 5→cur[p *5+j]?=(out[p]).cells[j]?:=fun j hj=>by
        rw[←nv2 out p j hlo hj,←htk2,aI_,if_pos (by omega)]
       generalize out[p]=y at *;have hss:=fun W=>zz1 y x W;have hww:=fun W=>ak2 x y W;obtain⟨bs,hbs⟩:=n_ (y.same x);obtain⟨bw,hbw⟩:=n_ (x.wins y);have hput:Mg.put out x=if bs=true then if bw=true then out.dropLast++[x] else out else out++[x]:=by
        unfold Mg.put;rw[hgl,hbs,hbw]
       rw[←hbs]at hss;rw[←hbw]at hww;unfold It.val at hss hww;have hkc:∀w',Below U.heap.size U w'→(w'.cell? ⟨g8,0,none⟩=some (.int .i64 x.s)∧w'.cell? ⟨g8,1,none⟩=some (.int .i64 x.k)∧w'.cell? ⟨g8,2,none⟩=some (.int .u64 (x.t:Int))∧w'.cell? ⟨g8,3,none⟩=some (.int .u64 (x.v:Int))∧w'.cell? ⟨g8,4,none⟩=some (.int .i64 x.x))∧w'.cell? ⟨g2,p *5,none⟩=some (.int .i64 y.s)∧w'.cell? ⟨g2,p *5+1,none⟩=some (.int .i64 y.k)∧w'.cell? ⟨g2,p *5+2,none⟩=some (.int .u64 (y.t:Int))∧w'.cell? ⟨g2,p *5+3,none⟩=some (.int .u64 (y.v:Int))∧w'.cell? ⟨g2,p *5+4,none⟩=some (.int .i64 y.x):=fun w' hb=>by
        have e:=hb2.below hb;have e2:=hbx2.below hb;refine⟨⟨e.cell 0,e.cell 1,e.cell 2,e.cell 3,e.cell 4⟩,?_⟩;exact⟨(e2.cell (p *5)).trans (hcells 0 (by omega)),(e2.cell (p *5+1)).trans (hcells 1 (by omega)),(e2.cell (p *5+2)).trans (hcells 2 (by omega)),(e2.cell (p *5+3)).trans (hcells 3 (by omega)),(e2.cell (p *5+4)).trans (hcells 4 (by omega))⟩
       have hpn:(p:Int) < ((p+1:Nat):Int):=by omega
       have hpn1:p < p+1:=by omega
       have hpw:IntKind.i64.wrap (((p+1:Nat):Int) - 1)=(p:Int):=by rw[show ((p+1:Nat):Int) - 1=(p:Int) by omega];exact F_ _ (by have:=hm2.len;have:=RUN.out;omega)
       have hpw2:IntKind.i64.wrap (p:Int)=(p:Int):=F_ _ (by have:=hm2.len;have:=RUN.out;omega);have hq2:(((p:Int)+1)==0)=false:=beq_eq_false_iff_ne.2 (by omega);have hq3:((p:Int)+1=0)=False:=eq_false (by omega);have hpn2:(p:Int) < (p:Int)+1:=by omega
       have HM0:=H_ hm2;have HB2:=H_ hb2;have HBX:=H_ (d_ hbx2 hcl2);have KC:=H_ hkc;have HSS:=H_ hss;have HWW:=H_ hww;have HPUT:=H_ hput;clear hkc hss hww hb2 hm2 hbx2 hcl2 hput hgl hcells hbs hbw htk2;refine wp_region_held_drew (S:=fun w'=>Below U.heap.size U w') rfl (ak b0_) (fun hSw=>?_);refine w_v 0 hSw ?_ (k:=kz40);go_simp;refine w_v 1 hSw ?_ (k:=kz40);go_simp;refine w_v 2 hSw ?_ (k:=kz40);go_simp;refine w_v 3 hSw ?_ (k:=kz40);go_simp;refine w_v 4 hSw ?_ (k:=kz40);go_simp;refine w_v 5 hSw ?_ (k:=kz40);go_simp;refine w_v 6 hSw ?_ (k:=kz40);go_simp;refine w_v 7 hSw ?_ (k:=kz40);go_simp;refine w_v 8 hSw ?_ (k:=kz40);go_simp;refine w_r 9 fun K hK=>?_;go_simp
       with_reducible refine(HSS.out _).mono ?_
       rintro e w3 ⟨rfl,hb3⟩;go_simp;refine hK.out _ _ (hSw.trans (hb3.mono hSw.size)) ?_;clear hSw hK K;intro hSw;go_simp;refine w_v 10 hSw ?_ (k:=kz40);go_simp;refine w_v 11 hSw ?_ (k:=kz40);go_simp;refine w_v 12 hSw ?_ (k:=kz40);go_simp;refine wpAnyH_done (by kernel_rfl) ?_ _
       cases bs with
       |false=>
        have PUT:=H_ (show Mg.put out x=out++[x] from HPUT.out);have hm2:=HM0.out.go hSw;have hb2:=HB2.out.below hSw;clear hSw KC HSS HWW HM0 HB2 HBX HPUT;generalize w3=U2 at *;have b0:=hb2.cell 0;have b1:=hb2.cell 1;have b2:=hb2.cell 2;have b3:=hb2.cell 3;have b4:=hb2.cell 4;simp only[It.cells,gE0,gE1]at b0 b1 b2 b3 b4;have hvb:BoxO (U2.alloc (.cells #[.int .i64 x.s,.int .i64 x.k,.int .u64 (x.t:Int),.int .u64 (x.v:Int),.int .i64 x.x] 36)) 36 U2.heap.size x.cells:=BoxO.new U2 #[.int .i64 x.s,.int .i64 x.k,.int .u64 (x.t:Int),.int .u64 (x.v:Int),.int .i64 x.x] 36;have hbA:=b_ U2 (.cells #[.int .i64 x.s,.int .i64 x.k,.int .u64 (x.t:Int),.int .u64 (x.v:Int),.int .i64 x.x] 36);have ho4:=own_below hm2.ow2 hbA;have hb4:=az hm2.bl hbA;have hrow9:=lx1 hvb;have HX:=H_ (show itc out++x.cells=itc (out++[x]) by rw[qw];simp[itc]);have HR9:=H_ hrow9;have HO:=H_ ho4;have HB:=H_ hb4;have HM:=H_ (d_ hm2 hbA);have hqb:p+1+1≤1000000:=by have:=HM.out.1.len;have:=RUN.out;omega
        clear hrow9 hvb hbA hb4 ho4 hm2 hb2;go_wp2_with (at_builtin;refine iy ?_);refine gz (jq rfl (.tmp 73) (.tmp 75) _ rfl wi.heap.size 36 i0 _ 5 40 Tryz.underlying31 hi0 hz0 hz1 hz2 rfl (by omega) wi HB.out HB.out.size _ (p+1) (itc out) rfl HO.out (U2.alloc (.cells #[.int .i64 x.s,.int .i64 x.k,.int .u64 (x.t:Int),.int .u64 (x.v:Int),.int .i64 x.x] 36)).heap.size _ 1 1 x.cells rfl HR9.out (fun v hv=>xq [x] v (by simpa [itc] using hv)) (p+1+1) _ rfl HX.out (by unfold maxLen;omega) (by omega) ?_);intro A3 c3 w5 h1 h2 h3 h4 h5;have hm3:=MI.more HM.out.1 HM.out.2 h3 h1 h2 (by rw[e_,←HM.out.1.len];rfl);have hl3:=jj1 (Row.own hm3.own) hm3.inn;have HM3:=H_ (d_ hm3 hl3);clear h1 h2 h3 h4 h5 HX HR9 HO HB HM hm3 hl3;go_wp2;go_roundw
        case rel=>exact⟨_,_,_,A3,p+1+1,c3,rfl,H_ ⟨HM3.out.1,PUT.out▸RUN.out.1,by have:=RUN.out;have:=HM3.out.1.len;omega⟩⟩
        case measure=>rw[HM3.out.2,RUN.out.2.2.1];have:=RUN.out;omega
       |true=>
        go_wp2_with fail;refine wp_region_held_drew (S:=fun w'=>Below U.heap.size U w') rfl (ak hSw) (fun hSw=>?_);refine w_v 0 hSw ?_ (k:=kz40);go_simp;refine w_v 1 hSw ?_ (k:=kz40);go_simp;refine w_v 2 hSw ?_ (k:=kz40);go_simp;refine w_v 3 hSw ?_ (k:=kz40);go_simp;refine w_v 4 hSw ?_ (k:=kz40);go_simp;refine w_v 5 hSw ?_ (k:=kz40);go_simp;refine w_r 6 fun K hK=>?_;go_simp
        with_reducible refine(HWW.out _).mono ?_
        rintro e w4 ⟨rfl,hb4⟩;go_simp;refine hK.out _ _ (hSw.trans (hb4.mono hSw.size)) ?_;clear hSw hK K;intro hSw;go_simp;refine w_v 7 hSw ?_ (k:=kz40);go_simp;refine wpAnyH_done (by kernel_rfl) ?_ _
        cases bw with
        |false=>
         have PUT:=H_ (show Mg.put out x=out from HPUT.out);have hm3:=HM0.out.go hSw;have hl3:=jj1 (Row.own hm3.own) hm3.inn;have HM3:=H_ (d_ hm3 hl3);clear hSw KC HSS HWW HM0 HB2 HBX HPUT hm3 hl3;go_wp2;go_roundw
         case rel=>exact⟨_,_,_,_,p+1,c2,rfl,H_ ⟨HM3.out.1,PUT.out▸RUN.out.1,by have:=RUN.out;have:=HM3.out.1.len;omega⟩⟩
         case measure=>rw[HM3.out.2,RUN.out.2.2.1];have:=RUN.out;omega
        |true=>
         have PUT:=H_ (show Mg.put out x=out.dropLast++[x] from HPUT.out);have hm3:=MI.over (HM0.out.go hSw) x;have hl3:=jj1 (Row.own hm3.own) hm3.inn;have HM3:=H_ (d_ hm3 hl3);obtain⟨⟨b0,b1,b2,b3,b4⟩,y0,y1,y2,y3,y4⟩:=KC.out _ hSw;have hbx:=HBX.out.1.below hSw;have f0:=hbx.free (p *5);have f1:=hbx.free (p *5+1);have f2:=hbx.free (p *5+2);have f3:=hbx.free (p *5+3);have f4:=hbx.free (p *5+4);clear hSw KC HSS HWW HM0 HB2 HBX HPUT hm3 hl3 hbx;go_wp2;go_roundw
         case rel=>exact⟨_,_,_,_,p+1,c2,rfl,H_ ⟨HM3.out.1,PUT.out▸RUN.out.1,by have:=RUN.out;have:=HM3.out.1.len;omega⟩⟩
         case measure=>exact Nat.lt_of_le_of_lt (bk_ HM3.out.2) (by rw[RUN.out.2.2.1];have:=RUN.out;omega)
end
section
open Go Go.RowKit Go.Lib Go.Shelf
theorem rk2 {W:World} {b b' n c m d:Nat} {A B:Option Addr} {xs ys:List Value} (h:W.ownsRow b 31 1 (.slice A n c) n xs) (k:W.ownsRow b' 36 5 (.slice B m d) m ys):∀g,(Value.slice B m d).ownBlock=some g→(Value.slice A n c).ownBlock≠some g:=by
 intro g hg hA
 cases A with
 |none=>cases hA
 |some a=>
  cases B with
  |none=>cases hg
  |some b=>
   obtain⟨g1,cur,e1,_,hb1,_⟩:=gw1 h;obtain⟨g2,cur2,e2,_,hb2,_⟩:=gw1 k;subst e1 e2;injection hg with hg;injection hA with hA;subst hg;have hA':g1=g2:=hA;subst hA';exact bz2 hb1 hb2
theorem TbAt.below {w w':World} {f:Nat} {rs:List (List It)} (h:TbAt w f rs) (hb:Below w.heap.size w w'):TbAt w' f rs:=by
 obtain⟨P,n,c,cnt,hc,hbx,h1,h2,hr⟩:=h;exact⟨P,n,c,cnt,hc,hbx.below hb,h1,h2,(hr.below hb).up hb.size⟩
def ROwn (b:Nat) (W:World) (vs:List Value) (ls:List (List It)):Prop:=ls.length=vs.length∧∀i (h:i < ls.length),∃A k c,vs[i]?=some (.slice A k c)∧k=ls[i].length∧k≤c∧c≤maxLen∧W.ownsRow b 36 5 (.slice A k c) k (itc ls[i])
theorem ROwn.below {b:Nat} {W W':World} {vs:List Value} {ls:List (List It)} (h:ROwn b W vs ls) (hb:Below W.heap.size W W'):ROwn b W' vs ls:=
 ⟨h.1,fun i hi=>let ⟨A,k,c,h1,h2,h3,h4,h5⟩:=h.2 i hi;⟨A,k,c,h1,h2,h3,h4,own_below h5 hb⟩⟩
theorem ROwn.more {b b' n c:Nat} {W1 W':World} {A B:Option Addr} {k d:Nat} {xs vs:List Value} {ls:List (List It)} {l:List It} (h:ROwn b W1 vs ls) (ho:W1.ownsRow b' 31 1 (.slice A n c) n xs) (hg:W1.grownBy W' (Value.slice A n c).ownBlock)
  (hk:k=l.length) (hkd:k≤d) (hd:d≤maxLen) (hr:W1.ownsRow b 36 5 (.slice B k d) k (itc l)):ROwn b W' (vs++[.slice B k d]) (ls++[l]):=by
 have hc:Chg (Value.slice A n c).ownBlock.toList W1 W':=Chg.pz hg (fun b hb=>by rw[hb];simp);refine⟨by simp[h.1],fun i hi=>?_⟩;have hl:=h.1
 rcases T_ i ls.length with hi1|hi1
 ·obtain⟨A',k',c',h1,h2,h3,h4,h5⟩:=h.2 i hi1
  refine⟨A',k',c',by rw[J_ (by omega)];exact h1,by rw[aB_ hi1];exact h2,h3,h4,?_⟩;rw[aB_ hi1];exact jv h5 hc (fun g hg hm=>rk2 ho h5 g hg (by simpa using hm))
 ·have hi2:i=ls.length:=by simp at hi;omega
  subst hi2;refine⟨B,k,d,by rw[hl,Y_ l_];simp,by simpa using hk,hkd,hd,?_⟩;have e:(ls++[l])[ls.length]'hi=l:=by simp
  rw[e];exact jv hr hc (fun g hg hm=>rk2 ho hr g hg (by simpa using hm))
theorem ROwn.rows {b n c:Nat} {W:World} {A:Option Addr} {vs:List Value} {ls:List (List It)} (h:ROwn b W vs ls) (ho:W.ownsRow b 31 1 (.slice A n c) n vs):jv1 W.heap.size W A n ls:=by
 have hl:=h.1;have h2:=ho.1;exact⟨vs,Row.own ho,by omega,fun i hi=>let ⟨B,k,d,h1,h2,h3,h4,h5⟩:=h.2 i hi;⟨B,k,d,h1,h3,h4,Row.own h5⟩⟩
def nx4 (w:World) (R:List (List It)) (e:Ending) (w':World):Prop:=∃A' n' c' vs,e=.returned (.slice A' n' c')∧n'=R.length∧w'.ownsRow w.heap.size 31 1 (.slice A' n' c') n' vs∧ROwn w.heap.size w' vs R∧Below w.heap.size w w'
theorem xk3 (f:Nat) (rs:List (List It)) (w:World) (h:TbAt w f rs) (hn:rs.length≤1000000) (hb:rs.flatten.length≤1000000):
  Calls Tryz.prog 167 #[.pointer (some ⟨f,0,none⟩)] w fun e w'=>∃A' k c',e=.returned (.slice A' k c')∧k=rs.flatten.length∧w'.ownsRow w.heap.size 36 5 (.slice A' k c') k (itc rs.flatten)∧k≤c'∧c'≤maxLen∧Below w.heap.size w w':=by
 obtain⟨P,n,c,cnt,hcnt,hbx,hnc,hcm,hr⟩:=h;have hln:rs.length=n:=by obtain⟨_,_,h,_⟩:=hr;exact h
 have HC:=H_ (aw2 P n c rs w (by omega) hb hr);have b0:=hbx.c0;clear hr hbx hcnt;go_enter Tryz.func167,Tryz.ntmps167;go_wp2_with fail;refine HC.out.mono ?_;rintro e w1 ⟨A',c',rfl,ho,h1,h2,h3⟩;generalize hL:rs.flatten.length=L at *;have HO:=H_ ho;clear ho;go_wp2;go_ret;exact⟨A',L,c',rfl,hL.symm,HO.out,h1,h2,h3⟩
theorem ex4 (A:Option Addr) (n c:Nat) (q:List Tq) (w:World) (hr:Row w.heap.size w A n 3 (hcells q)) (ht:∀p∈q,TbAt w p.2 p.1.2) (hn:n≤100000) (hbig:∀p∈q,p.1.2.length≤1000000∧p.1.2.flatten.length≤1000000):
  Calls Tryz.prog 86 #[.slice A n c] w (nx4 w (q.map fun p=>p.1.2.flatten)):=by
 obtain⟨i0,hi0,hz0,hz1,hz2⟩:=info_parts gz3;have hql:q.length=n:=by have:=hr.len;rw[qy]at this;omega
 have HR:=H_ (d_ hr (d_ ht hbig));clear hr ht hbig;go_enter Tryz.func86,Tryz.ntmps86;go_wp2
 go_loopw [3,8] (fun o i wr=>∃(k:Nat) (A2:Option Addr) (c2:Nat) (vs:List Value),k≤n∧o=.slice A2 k c2∧i=.int .i64 (k:Int)∧Hid (wr.ownsRow w.heap.size 31 1 (.slice A2 k c2) k vs∧ROwn w.heap.size wr vs ((q.take k).map fun p=>p.1.2.flatten))∧Below w.heap.size w wr) (fun _ i _=>n - (intOf i).toNat)
 case atStart=>exact⟨0,none,0,[],t_ _,rfl,rfl,H_ ⟨E_ _ _ _ _,rfl,fun i h=>absurd h (by simp)⟩,Below.refl _ _⟩
 case round=>
  obtain⟨k,A2,c2,vs,hk,rfl,rfl,HQ,hbl⟩:=hrel
  by_cases hlt:k < n
  ·have hkl:k < q.length:=by omega
   have hki:(k:Int) < (n:Int):=by omega
   have hget:=fun j (hj:j < 3)=>jy1 (fun p:Tq=>[Value.int .i64 p.1.1.1,.int .i64 p.1.1.2,.pointer (some ⟨p.2,0,none⟩)]) 3 (fun _=>rfl) q k j hkl hj;obtain⟨a,rfl,hab,hc0⟩:=iq1 HR.out.1 (hget 0 (by omega));have hcd:∀j v,0 < j→j < 3→[Value.int .i64 q[k].1.1.1,.int .i64 q[k].1.1.2,.pointer (some ⟨q[k].2,0,none⟩)][j]?=some v→w.cell? ⟨(a.add (k *3)).block,(a.add (k *3)).off+j,none⟩=some v:=fun j v h0 hj hv=>by
    obtain⟨a',ea',_,cc⟩:=iq1 HR.out.1 ((hget j hj).trans hv);injection ea' with ea';subst ea';rw[←mw2 a (k *3) h0];exact cc
   have hm:q[k]∈q:=v_ hkl;have htk:q.take (k+1)=q.take k++[q[k]]:=by rw[o_ hkl]
   have htb:=HR.out.2.1 q[k] hm;have hbg:=HR.out.2.2 q[k] hm;generalize q[k]=p at *;have hab2:(a.add (k *3)).block < w.heap.size:=by rw[add_block];exact hab
   have c0:=(hbl.cell (p:=a.add (k *3)) hab2).trans hc0;have c1:=(hbl.cell (p:=⟨(a.add (k *3)).block,(a.add (k *3)).off+1,none⟩) hab2).trans (hcd 1 _ (by omega) (by omega) rfl);have c2':=(hbl.cell (p:=⟨(a.add (k *3)).block,(a.add (k *3)).off+2,none⟩) hab2).trans (hcd 2 _ (by omega) (by omega) rfl);have hbV:=hbl.alloc hbl.size (.cells #[.int .i64 p.1.1.1,.int .i64 p.1.1.2,.pointer (some ⟨p.2,0,none⟩)] 173);have hbo:=b_ wr (.cells #[.int .i64 p.1.1.1,.int .i64 p.1.1.2,.pointer (some ⟨p.2,0,none⟩)] 173);have hcall:=xk3 p.2 p.1.2 _ (htb.below hbV) hbg.1 hbg.2;have HC:=H_ hcall;have HO:=H_ (d_ (own_below HQ.out.1 hbo) (d_ (HQ.out.2.below hbo) hbV));have HT:=H_ htk;clear hcall hbo hbV htb hbg hget hcd hc0 htk HQ hm;go_wp2_with fail;refine HC.out.mono ?_;rintro e w2 ⟨B,kk,d,rfl,hkk,hob,h1,h2,hb2⟩;have hbA:=b_ w2 (.cells #[.slice B kk d] 31);have hb4:=az (az HO.out.2.2 hb2) hbA;have ho4:=own_below (own_below HO.out.1 hb2) hbA;have hr4:=(HO.out.2.1.below hb2).below hbA;have hob4:=own_below (own_base hob HO.out.2.2.size) hbA;have hrow9:Row (w2.alloc (.cells #[.slice B kk d] 31)).heap.size (w2.alloc (.cells #[.slice B kk d] 31)) (some ⟨w2.heap.size,0,none⟩) 1 1 [.slice B kk d]:=(Row.new w2 #[.slice B kk d] 31 (n:=1) (size:=1) rfl).up (by simp);have HX:=H_ (d_ hkk (d_ h1 (d_ h2 hob4)));have HR9:=H_ hrow9;have HO4:=H_ (d_ ho4 hr4);have HB:=H_ hb4;clear hrow9 hbA hb4 ho4 hr4 hob hob4 HO HC h1 h2 hkk c0 c1 c2';go_wp2_with (at_builtin;refine iy ?_);refine gz (jq rfl (.tmp 12) (.tmp 16) _ rfl w.heap.size 31 i0 _ 1 24 Tryz.underlying44 hi0 hz0 hz1 hz2 rfl (by omega) w HB.out HB.out.size _ k vs rfl HO4.out.1 (w2.alloc (.cells #[.slice B kk d] 31)).heap.size _ 1 1 [.slice B kk d] rfl HR9.out (fun v hv=>by simp only[c_]at hv;rw[hv];rfl) (k+1) _ rfl rfl (by unfold maxLen;omega) (by omega) ?_);intro A3 c3 w5 z1 z2 z3 z4 z5;have hn3:=ROwn.more HO4.out.2 HO4.out.1 z3 HX.out.1 HX.out.2.1 HX.out.2.2.1 HX.out.2.2.2;have HN:=H_ (d_ z1 (show ROwn w.heap.size w5 (vs++[.slice B kk d]) ((q.take (k+1)).map fun p=>p.1.2.flatten) by rw[HT.out,aD_];exact hn3));clear z1 z3 z4 z5 hn3 HX HR9 HO4 HB;go_wp2;go_roundw
   case rel=>exact⟨k+1,A3,c3,_,by omega,rfl,by go_num,HN,z2⟩
   case measure=>simp[intOf];omega
  ·obtain rfl:k=n:=by omega
   have hki:((k:Int) < (k:Int))=False:=eq_false (by omega);have hall:q.take k=q:=i_ (by omega);have hq:=HQ.out;rw[hall]at hq;have HF:=H_ hq;clear hq hall HQ;go_wp2;go_ret;exact⟨A2,k,c2,vs,rfl,by rw[az_];omega,HF.out.1,HF.out.2,hbl⟩
end
section
open Go Go.RowKit Go.Lib Go.Shelf
theorem xy3:(Tryz.prog.info? 3).map (fun i=>(i.zero,i.size,i.bytes))=some (some (.int .i64 0),1,8):=by kernel_rfl
theorem dq4 {B n:Nat} {w:World} {A:Option Addr} {q:List Tq} (h:Row B w A n 3 (hcells q)) {k:Nat} (hkl:k < q.length):
  ∃a,A=some a∧a.block < B∧w.cell? (a.add (k *3))=some (.int .i64 q[k].1.1.1)∧w.cell? ⟨(a.add (k *3)).block,(a.add (k *3)).off+1,none⟩=some (.int .i64 q[k].1.1.2)∧w.cell? ⟨(a.add (k *3)).block,(a.add (k *3)).off+2,none⟩=some (.pointer (some ⟨q[k].2,0,none⟩)):=by
 have hget:=fun j (hj:j < 3)=>jy1 (fun p:Tq=>[Value.int .i64 p.1.1.1,.int .i64 p.1.1.2,.pointer (some ⟨p.2,0,none⟩)]) 3 (fun _=>rfl) q k j hkl hj;obtain⟨a,rfl,hab,hc0⟩:=iq1 h (hget 0 (by omega));have hcd:∀j v,0 < j→j < 3→[Value.int .i64 q[k].1.1.1,.int .i64 q[k].1.1.2,.pointer (some ⟨q[k].2,0,none⟩)][j]?=some v→w.cell? ⟨(a.add (k *3)).block,(a.add (k *3)).off+j,none⟩=some v:=fun j v h0 hj hv=>by
  obtain⟨a',ea',_,cc⟩:=iq1 h ((hget j hj).trans hv);injection ea' with ea';subst ea';rw[←mw2 a (k *3) h0];exact cc
 exact⟨a,rfl,hab,hc0,hcd 1 _ (by omega) (by omega) rfl,hcd 2 _ (by omega) (by omega) rfl⟩
theorem nw3 (s n c:Nat) (A:Option Addr) (q:List Tq) (w:World) (hc4:w.cell? ⟨s,4,none⟩=some (.slice A n c)) (hr:Row w.heap.size w A n 3 (hcells q)) (hn:n≤100000):
  Calls Tryz.prog 98 #[.pointer (some ⟨s,0,none⟩)] w fun e w'=>∃A' k c',e=.returned (.slice A' k c')∧k=q.length∧w'.ownsRow w.heap.size 3 1 (.slice A' k c') k (q.map fun p=>.int .i64 p.1.1.2)∧Below w.heap.size w w':=by
 obtain⟨i0,hi0,hz0,hz1,hz2⟩:=info_parts xy3;have hql:q.length=n:=by have:=hr.len;rw[qy]at this;omega
 have HR:=H_ hr;clear hr;go_enter Tryz.func98,Tryz.ntmps98;go_wp2
 go_loopw [3,11] (fun o i wr=>∃(k:Nat) (A2:Option Addr) (c2:Nat),k≤n∧o=.slice A2 k c2∧i=.int .i64 (k:Int)∧Hid (wr.ownsRow w.heap.size 3 1 (.slice A2 k c2) k ((q.take k).map fun p=>.int .i64 p.1.1.2))∧Below w.heap.size w wr) (fun _ i _=>n - (intOf i).toNat)
 case atStart=>exact⟨0,none,0,t_ _,rfl,rfl,H_ (E_ _ _ _ _),Below.refl _ _⟩
 case round=>
  obtain⟨k,A2,c2,hk,rfl,rfl,HQ,hbl⟩:=hrel
  by_cases hlt:k < n
  ·have hkl:k < q.length:=by omega
   have hki:(k:Int) < (n:Int):=by omega
   obtain⟨a,rfl,hab,hc0,hc1,hc2⟩:=dq4 HR.out hkl;have htk:q.take (k+1)=q.take k++[q[k]]:=by rw[o_ hkl]
   generalize q[k]=p at *;have hab2:(a.add (k *3)).block < w.heap.size:=by rw[add_block];exact hab
   have c0:=(hbl.cell (p:=a.add (k *3)) hab2).trans hc0;have c1:=(hbl.cell (p:=⟨(a.add (k *3)).block,(a.add (k *3)).off+1,none⟩) hab2).trans hc1;have c2':=(hbl.cell (p:=⟨(a.add (k *3)).block,(a.add (k *3)).off+2,none⟩) hab2).trans hc2;have hbo:=b_ wr (.cells #[.int .i64 p.1.1.1,.int .i64 p.1.1.2,.pointer (some ⟨p.2,0,none⟩)] 173);obtain⟨U,hU⟩:=n_ (wr.alloc (.cells #[.int .i64 p.1.1.1,.int .i64 p.1.1.2,.pointer (some ⟨p.2,0,none⟩)] 173));have hbx:BoxO U 173 wr.heap.size [.int .i64 p.1.1.1,.int .i64 p.1.1.2,.pointer (some ⟨p.2,0,none⟩)]:=by rw[hU];exact BoxO.new wr #[.int .i64 p.1.1.1,.int .i64 p.1.1.2,.pointer (some ⟨p.2,0,none⟩)] 173
   rw[←hU]at hbo;have hsz:U.heap.size=wr.heap.size+1:=by rw[hU,A_]
   have hbA:=b_ U (.cells #[.int .i64 p.1.1.2] 3);have hb4:=az (az hbl hbo) hbA;have ho4:=own_below (own_below HQ.out hbo) hbA;have hrow9:Row (U.alloc (.cells #[.int .i64 p.1.1.2] 3)).heap.size (U.alloc (.cells #[.int .i64 p.1.1.2] 3)) (some ⟨wr.heap.size+1,0,none⟩) 1 1 [.int .i64 p.1.1.2]:=hsz▸(Row.new U #[.int .i64 p.1.1.2] 3 (n:=1) (size:=1) rfl).up (by simp);have HR9:=H_ hrow9;have HO4:=H_ ho4;have HB:=H_ hb4;have HT:=H_ (show ((q.take k).map fun p=>Value.int .i64 p.1.1.2)++[.int .i64 p.1.1.2]=(q.take (k+1)).map fun p=>.int .i64 p.1.1.2 by rw[htk,aD_];rfl);subst hU;clear hrow9 hbA hb4 ho4 htk hbo hbx hsz hc0 hc1 hc2 HQ;go_wp2_with (at_builtin;refine iy ?_);refine gz (jq rfl (.tmp 15) (.tmp 19) _ rfl w.heap.size 3 i0 _ 1 8 Tryz.underlying48 hi0 hz0 hz1 hz2 rfl (by omega) w HB.out HB.out.size _ k _ rfl HO4.out _ _ 1 1 [.int .i64 p.1.1.2] rfl HR9.out (fun v hv=>by simp only[c_]at hv;rw[hv];rfl) (k+1) _ rfl HT.out (by unfold maxLen;omega) (by omega) ?_);intro A3 c3 w5 z1 z2 z3 z4 z5;have HN:=H_ z1;clear z1 z3 z4 z5 HR9 HO4 HB;go_wp2;go_roundw
   case rel=>exact⟨k+1,A3,c3,by omega,rfl,by go_num,HN,z2⟩
   case measure=>simp[intOf];omega
  ·obtain rfl:k=n:=by omega
   have hki:((k:Int) < (k:Int))=False:=eq_false (by omega);have hall:q.take k=q:=i_ (by omega);have hq:=HQ.out;rw[hall]at hq;have HF:=H_ hq;clear hq hall HQ;go_wp2;go_ret;exact⟨A2,k,c2,rfl,hql.symm,HF.out,hbl⟩
end
end Go.Proofs.YthjdpplgfdihoaaGreatDoor
