/- Some of the texts. No conditions. -/
import Derived.Test.YtkdbagdiplpcfaaGreatDoorBunAX
import Derived.Test.YtkdbagdiplpcfaaGreatDoorBunAY

set_option linter.unusedSimpArgs false
set_option linter.unusedVariables false
set_option maxRecDepth 100000
set_option maxHeartbeats 16000000
namespace Go.Proofs.YtkdbagdiplpcfaaGreatDoor
open Go.Proofs.Tryz Go Go.RowKit Go.Lib Go.Shelf
section
variable {w w0 w1 w2:World} {X X1 X2:Dw} {S S1 S2:Sd} {Y Y1 Y2:Yw} {V V1 V2:Sv} {g gw:Nat} {cs:List Value} {R:Sl} {L:List It} {mt:Mt} {F:List Nat}
structure LawC (cs:List Value):Prop where
 hd:∃p,cs[0]?=some (.pointer p)
 no:∀n,Value.int .i64 n∉cs
theorem fx5 (H:BoxO w 39 g cs) {a:Addr} (I:a.block=g) {v:Value} (C:w.cell? a=some v):cs[a.off]?=some v:=by
 unfold World.cell? at C;have E:w.heap[g]?=some (.cells cs.toArray 39 (0,0)):=H;rw[I,E]at C;simp only at C;split at C
 ·cases C
 ·simpa using C
theorem gw2 (O:BoxO w 39 g cs) (H:LawC cs) {B n sz:Nat} {A:Option Addr} {xs:List Value} (Q:Row B w A n sz xs) (U:∀v,xs[0]?=some v->(∃k,v=.int .i64 k)\/((∀a,A=some a->a.off=0)/\∀p,v≠.pointer p)):∀j,j < xs.length->∀a,A=some a->a.block∉[g]:=by
 intro j hj a I E;have E:=a_.1 E;have J:0 < xs.length:=o_
 obtain⟨a',e,_,Z⟩:=Q.cell 0 J;rw[I]at e;injection e with e;subst e;have C:=fx5 O E Z
 rcases U _ (h_ J) with ⟨k,hk⟩|⟨h1,h2⟩
 ·rw[hk]at C
  exact H.no k (t_ C)
 ·obtain⟨p,hp⟩:=H.hd
  rw[h1 a I,hp]at C;injection C with C;exact h2 p C.symm
theorem nz5 (l:List It):∀v,(itc l)[0]?=some v->∃k,v=.int .i64 k:=by
 intro v C
 cases l with
 |nil=>simp[itc]at C
 |cons x l=>simp[itc,It.cells]at C;exact⟨_,C.symm⟩
theorem TbAt.law {f:Nat} {rs:List (List It)} (h:TbAt w f rs) (I:BoxO w 39 g cs) (Q:LawC cs) (c:Chg [g] w w1):TbAt w1 f rs:=by
 obtain⟨P,n,cc,cnt,hc,H,h1,h2,⟨vs,J,hn,U⟩,h3⟩:=h;refine⟨P,n,cc,cnt,hc,H.chg c fun O=>?_,h1,h2,⟨vs,(kz c J l_ (gw2 I Q J fun v C=>.inr ⟨h3,fun p e=>?_⟩)).up c.size,hn,fun i hi=>?_⟩,h3⟩
 ·have O:=a_.1 O
  subst O;have k1:w.heap[f]?=some (.cells _ 221 (0,0)):=H;have E:w.heap[f]?=some (.cells _ 39 (0,0)):=I;rw[k1]at E;injection E with E;injection E with _ E
  cases E
 ·have a6:=J.len
  have h0:0 < rs.length:=by
   have:=(J_.1 C).1;omega
  obtain⟨A,k,Z,q,_⟩:=U 0 h0;rw[q]at C;injection C with C;rw[e]at C
  cases C
 ·obtain⟨A,k,Z,q1,q2,q3,q4⟩:=U i hi
  exact⟨A,k,Z,q1,q2,q3,(kz c q4 l_ (gw2 I Q q4 fun v C=>.inl (nz5 _ v C))).up c.size⟩
theorem fy1.law {T:Sl} {q:List Tq} {ts:List ((Int×Int)×List (List It))} (h:fy1 w T q ts) (E:BoxO w 39 g cs) (H:LawC cs) (c:Chg [g] w w1):fy1 w1 T q ts:=by
 obtain⟨h1,h2,h3,h4,h5,I⟩:=h;refine⟨h1,(kz c h2 l_ (gw2 E H h2 fun v C=>?_)).up c.size,h3,h4,h5,fun p J=>(I p J).law E H c⟩
 cases q with
 |nil=>simp[hcells]at C
 |cons x q=>simp[hcells]at C;exact .inl ⟨_,C.symm⟩
theorem Its.law {A:Option Addr} {n c:Nat} {l:List It} {B:Nat} (h:Its B w A n c l) (C:BoxO w 39 g cs) (E:LawC cs) (k:Chg [g] w w1):Its B w1 A n c l:=
 ⟨(kz k h.row l_ (gw2 C E h.row fun v H=>.inl (nz5 _ v H))).up k.size,h.nc,h.cm,h.low⟩
theorem vz.law {p:World->Prop} (h:vz F w p) (I:BoxO w 39 g cs) (c:Chg [g] w w1) (Z:∀W J,BoxO W 39 g cs->Chg [g] W J->p W->p J):vz F w1 p:=fun w2 C=>by
 have O:=I.lt;have E:=j_ c.size C.size;have Q:(back w w2 [g]).heap[g]?=w.heap[g]?:=pw5 s_ O (N_ O E);have h1:=h (back w w2 [g]) ⟨C.os.trans c.os,C.tape.trans c.tape,C.output.trans c.output,by rw[zj2];exact E,fun y U hF=>by
  by_cases H:y∈[g]
  ·rw[a_.1 H]
   exact Q
  ·rw[wv3 H,C.block y (N_ U c.size) hF,c.block y U H]⟩
 exact Z (back w w2 [g]) w2 (show (back w w2 [g]).heap[g]?=_ from Q.trans I) ⟨rfl,rfl,rfl,by rw[zj2];exact y_ _,fun r _ H=>(wv3 H).symm⟩ h1
theorem SvAt.law (h:SvAt w X S Y V) (J:BoxO w 39 g cs) (O:LawC cs) (c:Chg [g] w w1) (ho:g∉XY X Y) (Q:NG<=g):SvAt w1 X S Y V:=by
 have I:∀y∈Y.foot,y∉[g]:=fun y h1 h2=>ho (by rw[<-a_.1 h2];exact p_ _ h1);have U:∀v,(dw V.M.v.files)[0]?=some v->∃k,v=.int .i64 k:=fun v C=>by
  cases E:V.M.v.files with
  |nil=>rw[E]at C;simp[dw]at C
  |cons x l=>rw[E]at C;simp[dw]at C;exact⟨_,C.symm⟩
 refine⟨h.dm.chg c (fun y H=>by rw[a_.1 H];exact⟨fun hm=>ho (x_ _ hm),Q⟩),h.box.chg c (I _ (Yw.aj.2 (.inl rfl))),h.man.chg c (I _ (Yw.aj.2 (.inr (.inl rfl)))),⟨(kz c h.row.row l_ (gw2 J O h.row.row fun v C=>.inl (U v C))).up c.size,h.row.nc,h.row.cm,h.row.nb,h.row.away⟩,h.pout,h.log.chg c (I _ (Yw.aj.2 (.inr (.inr (.inl rfl))))),h.mem.chg c (fun y H=>I y (Yw.aj.2 ?_)),h.its,h.tabs.law J c (fun W W' q1 Z q3=>q3.law q1 O Z),h.st.law J c (fun W W' q1 Z q3=>q3.law q1 O Z),h.apart,h.ng⟩
 rcases f_.1 H with rfl|H
 ·exact .inr (.inr (.inr (.inl rfl)))
 ·exact .inr (.inr (.inr (.inr H)))
structure Ws (w0 w:World) (gw:Nat) (X:Dw) (S:Sd) (Y:Yw) (V:Sv) (R:Sl) (L:List It) (mt:Mt):Prop where
 at_:SvAt w X S Y V
 box:BoxO w 39 gw [.pointer (some ⟨X.d,0,none⟩),.pointer (some ⟨Y.s,0,none⟩),.slice R.a R.n R.c,.int .u64 (mt.floor:Int),.int .u64 (mt.cert:Int),.int .u64 (mt.at_:Int),.int .u64 (mt.lease:Int)]
 row:Row w.heap.size w R.a R.n 5 (itc L)
 rout:∀j,j < (itc L).length->∀a,R.a=some a->a.block∉gw::XY X Y
 low:∀g∈XY X Y,w0.heap.size<=g
 out:gw∉XY X Y
 gl:w0.heap.size<=gw
 ng:NG<=gw
 bel:Below w0.heap.size w0 w
theorem Ws.below (h:Ws w0 w gw X S Y V R L mt) (C:Below w.heap.size w w1):Ws w0 w1 gw X S Y V R L mt:=
 ⟨h.at_.below C,h.box.below C,(h.row.below C).up C.size,h.rout,h.low,h.out,h.gl,h.ng,az h.bel C⟩
theorem Ws.upd (h:Ws w0 w gw X S Y V R L mt) (I:aw1 X Y w w1 S1 V1):∃X1 Y1,Ws w0 w1 gw X1 S1 Y1 V1 R L mt/\Chg (XY X Y) w w1:=by
 obtain⟨X1,Y1,e,es,h1,c,f⟩:=I;have Q:=h.box.lt;refine⟨X1,Y1,⟨h1,by rw[e,es];exact h.box.chg c h.out,(kz c h.row l_ (fun j hj a C E=>h.rout j hj a C (e_ _ E))).up c.size,fun j hj a C E=>?_,fun g J=>?_,fun E=>?_,h.gl,h.ng,h.bel.trans (c.below h.bel.size h.low)⟩,c⟩
 ·rcases f_.1 E with q|q
  ·exact h.rout j hj a C (by rw[q];exact i_)
  ·rcases f _ q with z|z
   ·exact h.rout j hj a C (e_ _ z)
   ·obtain⟨U,H,O,_⟩:=h.row.cell j hj
    rw[C]at H;injection H with H;subst H;omega
 ·rcases f g J with q|q
  ·exact h.low g q
  ·exact j_ h.bel.size q
 ·rcases f gw E with q|q
  ·exact h.out q
  ·omega
theorem Ws.lawc (X:Dw) (Y:Yw) (R:Sl) (mt:Mt):LawC [.pointer (some ⟨X.d,0,none⟩),.pointer (some ⟨Y.s,0,none⟩),.slice R.a R.n R.c,.int .u64 (mt.floor:Int),.int .u64 (mt.cert:Int),.int .u64 (mt.at_:Int),.int .u64 (mt.lease:Int)]:=⟨⟨_,rfl⟩,fun n C=>by simp at C⟩
theorem Ws.bel1 (h:Ws w0 w gw X S Y V R L mt) (c:Chg [gw] w w1):Below w0.heap.size w0 w1:=h.bel.trans (c.below h.bel.size fun g C=>by rw[a_.1 C];exact h.gl)
theorem Ws.rset (h:Ws w0 w gw X S Y V R L mt) (A:Option Addr) (n c:Nat) (C:List It) (H:Row w.heap.size w A n 5 (itc C)) (E:∀j,j < (itc C).length->∀a,A=some a->a.block∉gw::XY X Y):Ws w0 (w.setCell ⟨gw,2,none⟩ (.slice A n c)) gw X S Y V ⟨A,n,c⟩ C mt:=by
 have k:Chg [gw] w (w.setCell ⟨gw,2,none⟩ (.slice A n c)):=(Chg.refl _ _).setCell _ (.inl s_);refine⟨h.at_.law h.box (Ws.lawc X Y R mt) k h.out h.ng,h.box.store 2 _,(kz k H l_ (fun j hj a I J=>E j hj a I (by rw[a_.1 J];exact i_))).up k.size,E,h.low,h.out,h.gl,h.ng,h.bel1 k⟩
theorem Ws.mset (h:Ws w0 w gw X S Y V R L mt) (m:Mt):Ws w0 ((((w.setCell ⟨gw,3,none⟩ (.int .u64 (m.floor:Int))).setCell ⟨gw,4,none⟩ (.int .u64 (m.cert:Int))).setCell ⟨gw,5,none⟩ (.int .u64 (m.at_:Int))).setCell ⟨gw,6,none⟩ (.int .u64 (m.lease:Int))) gw X S Y V R L m:=by
 have k:Chg [gw] w ((((w.setCell ⟨gw,3,none⟩ (.int .u64 (m.floor:Int))).setCell ⟨gw,4,none⟩ (.int .u64 (m.cert:Int))).setCell ⟨gw,5,none⟩ (.int .u64 (m.at_:Int))).setCell ⟨gw,6,none⟩ (.int .u64 (m.lease:Int))):=((((Chg.refl _ _).setCell _ (.inl s_)).setCell _ (.inl s_)).setCell _ (.inl s_)).setCell _ (.inl s_);exact⟨h.at_.law h.box (Ws.lawc X Y R mt) k h.out h.ng,(((h.box.store 3 _).store 4 _).store 5 _).store 6 _,(kz k h.row l_ (fun j hj a C E=>h.rout j hj a C (by rw[a_.1 E];exact i_))).up k.size,h.rout,h.low,h.out,h.gl,h.ng,h.bel1 k⟩
end
end Go.Proofs.YtkdbagdiplpcfaaGreatDoor
