/- Some of the texts. No conditions. -/
import Derived.Test.YtkdbagdiplpcfaaGreatDoorBunAV
import Derived.Test.YtkdbagdiplpcfaaGreatDoorBunAX
import Derived.Test.YtkdbagdiplpcfaaGreatDoorBunAW

set_option linter.unusedSimpArgs false
set_option linter.unusedVariables false
set_option maxRecDepth 100000
set_option maxHeartbeats 16000000
namespace Go.Proofs.YtkdbagdiplpcfaaGreatDoor
open Go.Proofs.Tryz Go Go.RowKit Go.Lib Go.Shelf
section
variable {w w1 w2:World} {X X1 X2:Dw} {S S1 S2:Sd} {Y Y1 Y2:Yw} {V V1 V2:Sv}
theorem cy4 (x:Tq) (inn:List Int) (D:Option Addr) (dm dd E:Nat) (w:World) (H:dm<=1000000) (I:w.cell? ⟨E,0,none⟩=some (.slice D dm dd)) (J:Row w.heap.size w D dm 1 (uw inn)):
  Calls prog 94 (#[x.val] ++#[.pointer (some ⟨E,0,none⟩)]) w fun e w'=>e=.returned (.bool (decide (x.1.1.2∈inn)))/\Below w.heap.size w w':=by
 have C:=b_ w (.cells #[.int .i64 x.1.1.1,.int .i64 x.1.1.2,.pointer (some ⟨x.2,0,none⟩)] 92);have O:∀o,(w.alloc o).cell? ⟨E,0,none⟩=some (.slice D dm dd):=fun o=>(R_ w o _ (M_ w _ I)).trans I;have Q:=H_ (sw1 inn x.1.1.2 D dm dd H (w.alloc (.cells #[.int .i64 x.1.1.1,.int .i64 x.1.1.2,.pointer (some ⟨x.2,0,none⟩)] 92)) ((J.below C).up C.size));unfold Tq.val;clear J;go_enter func94,ntmps94;go_wp2_with fail;refine Q.out.mono ?_;rintro e w1 ⟨rfl,rfl⟩;go_wp2;go_ret;exact⟨rfl,C⟩
theorem SvAt.tset (h:SvAt w X S Y V) (T:Sl) (q:List Tq) (ts:List ((Int×Int)×List (List It))) (O:vz (XY X Y) w fun w=>fy1 w T q ts):
  SvAt (w.setCell ⟨Y.s,4,none⟩ (.slice T.a T.n T.c)) X S { Y with T:=T,q:=q } { V with tabs:=ts }/\Chg [Y.s] w (w.setCell ⟨Y.s,4,none⟩ (.slice T.a T.n T.c))/\Chg (XY X Y) w (w.setCell ⟨Y.s,4,none⟩ (.slice T.a T.n T.c)):=by
 have c:Chg [Y.s] w (w.setCell ⟨Y.s,4,none⟩ (.slice T.a T.n T.c)):=(Chg.refl _ _).setCell _ (.inl s_);have E:Y.s∈Y.foot:=Yw.aj.2 (.inl rfl);have H:Chg (XY X Y) w (w.setCell ⟨Y.s,4,none⟩ (.slice T.a T.n T.c)):=c.mono fun g C=>.inl (by
  rw[a_.1 C];exact p_ _ E)
 have J:∀g∈Y.m::Y.g::Y.mm::skF Y.L Y.ns,g∉[Y.s]:=fun g C I=>h.apart.s (by rw[<-a_.1 I];exact C);exact⟨⟨h.dm.chg c (fun g C=>by rw[a_.1 C];exact⟨h.apart.x _ E,h.ng _ E⟩),h.box.store 4 (.slice T.a T.n T.c),h.man.chg c (J _ i_),⟨(kz c h.row.row l_ (fun j hj a Q I=>h.pout j hj a Q (by rw[a_.1 I];exact E))).up c.size,h.row.nc,h.row.cm,h.row.nb,h.row.away⟩,h.pout,h.log.chg c (J _ (e_ _ i_)),h.mem.chg c (fun g C=>J _ (e_ _ (e_ _ C))),h.its,O.step H (fun g C=>.inl C),h.st.step H (fun g C=>.inl C),⟨h.apart.x,h.apart.s,h.apart.m,h.apart.g⟩,h.ng⟩,c,H⟩
theorem kk3 (h:SvAt w X S Y V) (gt E H:Nat) (T:Sl) (q:List Tq) (ts:List ((Int×Int)×List (List It))) (N:Option Addr) (nn nc:Nat) (next:List It) (bt:BoxO w 64 gt [.slice T.a T.n T.c]) (I:BoxO w 37 E [.pointer (some ⟨Y.s,0,none⟩)]) (O:BoxO w 26 H [.slice N nn nc])
  (n5:E≠Y.s) (n9:H≠Y.s) (Q:vz (XY X Y) w fun w=>fy1 w T q ts) (U:vz (XY X Y) w fun w=>Its 0 w N nn nc next):
  Calls prog 96 #[.pointer (some ⟨gt,0,none⟩),.pointer (some ⟨E,0,none⟩),.pointer (some ⟨H,0,none⟩)] w fun e w'=>e=.returned (.tuple #[])/\SvAt w' X S { Y with T:=T,q:=q,A:=⟨N,nn,nc⟩ } (St.mergeD ts next V)/\Chg (XY X Y) w w':=by
 obtain⟨h1,c1,c2⟩:=h.tset T q ts Q;have t0:=bt.cell 0;have s0:=I.cell 0;have c4:=h.box.cell 4;have f4:=h.box.free 4;have s1:=(I.chg c1 (by simpa using n5)).cell 0;have x1:=(O.chg c1 (by simpa using n9)).cell 0;simp only[Yw.cells,gE0,gE1]at t0 s0 c4 s1 x1;have C:=H_ (sq3 h1 N nn nc next (U.step c2 (fun g J=>.inl J)));have Z:=H_ c2;clear h1 c1 c2 h bt I O Q U;go_enter func96,ntmps96;go_wp2_with fail;refine C.out.mono ?_;rintro e w3 ⟨rfl,h3,c3⟩;have HF:Hid (SvAt w3 X S { Y with T:=T,q:=q,A:=⟨N,nn,nc⟩ } (St.mergeD ts next V)/\Chg (XY X Y) w w3):=H_ ⟨h3,Z.out.trans c3 (fun g J=>.inl J)⟩;clear h3 c3 C Z;go_wp2;exact bodyPost_end (v:=.tuple #[]) (by simp[results,go_sem]) rfl ⟨rfl,HF.out⟩
theorem ew1 {W:World} {b s n g:Nat} {e H:TypeId} {v:Value} {xs J:List Value} (h:W.ownsRow b e s v n xs) (k:BoxO W H g J) (I:e≠H):v.ownBlock≠some g:=by
 rcases h.2 with ⟨rfl,_⟩|⟨O,cap,cur,rfl,_,Q,_⟩
 ·simp[Value.ownBlock]
 ·intro E
  injection E with E;have E:O=g:=E;subst E;have C:W.heap[O]?=some (.cells J.toArray H (0,0)):=k;rw[Q]at C;injection C with C;injection C with _ C _;exact I C
theorem gx4 {W:World} {b s n O Q n':Nat} {e E:TypeId} {v I:Value} {xs U:List Value} (h:W.ownsRow b e s v n xs) (k:W.ownsRow O E Q I n' U) (H:e≠E):∀g,I.ownBlock=some g->v.ownBlock≠some g:=by
 intro g C
 rcases k.2 with ⟨rfl,_⟩|⟨J,cap,cur,rfl,_,Z,_⟩
 ·simp[Value.ownBlock]at C
 ·injection C with C
  have C:J=g:=C;subst C;exact ew1 h (show BoxO W E J cur.toList by unfold BoxO;simpa using Z) H
theorem gy1.own {W:World} {B b s n:Nat} {e:TypeId} {v:Value} {xs:List Value} (la:gy1 B W) (h:W.ownsRow b e s v n xs):v.ownBlock≠some B/\v.ownBlock≠some (B+1):=by
 obtain⟨h1,r,h2⟩:=la
 rcases h.2 with ⟨rfl,_⟩|⟨H,cap,cur,rfl,_,E,_⟩
 ·simp[Value.ownBlock]
 ·constructor
  all_goals
   intro C;injection C with C;have C:H=_:=C;subst C
  ·rw[h1]at E;cases E
  ·rw[h2]at E;cases E
theorem gy1.box {W:World} {B g:Nat} {e:TypeId} {xs:List Value} (la:gy1 B W) (h:BoxO W e g xs):g≠B/\g≠B+1:=by
 obtain⟨h1,r,h2⟩:=la;unfold BoxO at h;constructor
 ·rintro rfl
  rw[h1]at h;cases h
 ·rintro rfl
  rw[h2]at h;cases h
def yk3 (B:Nat) (r:Loop) (W:World):Prop:=W.heap[B]?=some (.deferred (some []))/\W.heap[B+1]?=some (.loop r)
theorem yk3.at_ {B:Nat} {r:Loop} {W:World} (h:yk3 B r W):gy1 B W:=⟨h.1,r,h.2⟩
def blk (s:Sl):List Nat:=(Value.slice s.a s.n s.c).ownBlock.toList
theorem oq {s:Sl} {g:Nat}:g∈blk s↔(Value.slice s.a s.n s.c).ownBlock=some g:=a7_
def mgG (b gt LB:Nat) (F T:Sl):List Nat:=[b+4,b+5,gt,LB,LB+1] ++(blk F++blk T)
theorem jv {b gt LB g:Nat} {F T:Sl}:g∈mgG b gt LB F T↔g=b+4\/g=b+5\/g=gt\/g=LB\/g=LB+1\/g∈blk F\/g∈blk T:=by simp[mgG]
def Mg5 (b s gt:Nat) (D:Option Addr) (dm dd:Nat) (lev:Int) (N:Option Addr) (nn nc:Nat) (L:Option Addr) (lm lc:Nat) (q1:List Tq) (W:World):Prop:=
 (BoxO W 37 b [.pointer (some ⟨s,0,none⟩)]/\BoxO W 30 (b+1) [.slice D dm dd]/\BoxO W 3 (b+2) [.int .i64 lev]/\BoxO W 26 (b+3) [.slice N nn nc]/\BoxO W 26 (gt+1) [.slice L lm lc]/\BoxO W 3 (gt+2) [.int .i64 200])/\∀p∈q1,TbAt W p.2 p.1.2
structure MgK (w:World) (X:Dw) (Y:Yw) (V:Sv) (gt LB:Nat) (r:Loop) (D:Option Addr) (dm dd:Nat) (lev:Int) (N:Option Addr) (nn nc:Nat) (L:Option Addr) (lm lc:Nat) (q0:List Tq) (W:World) (X1:Dw) (S1:Sd) (F T:Sl) (adds:List (Int×Int)) (q1 qs:List Tq):Prop where
 way:Way w X Y V W X1 S1
 la:yk3 LB r W
 lo:w.heap.size+5 < gt/\gt < LB
 fix:vz (mgG w.heap.size gt LB F T++XY X1 Y) W (Mg5 w.heap.size Y.s gt D dm dd lev N nn nc L lm lc qs)
 bx:BoxO W 131 (w.heap.size+5) [.slice D dm dd,.slice F.a F.n F.c,.int .i64 0,.int .u64 0,.int .u64 0,.int .u64 0,.int .u64 0]
 bt:BoxO W 64 gt [.slice T.a T.n T.c]
 b4:BoxO W 34 (w.heap.size+4) [.int .i64 0]
 oa:W.ownsRow w.heap.size 89 2 (.slice F.a F.n F.c) F.n (dw adds)
 ot:W.ownsRow w.heap.size 92 3 (.slice T.a T.n T.c) T.n (hcells (q0++q1))
 no:∀g∈mgG w.heap.size gt LB F T,g∉XY X1 Y
variable {qs:List Tq} {r r2:Loop} {gt LB dm dd nn nc lm lc:Nat} {D N L:Option Addr} {lev:Int} {q0 q1:List Tq} {W W1 W2:World} {F T:Sl} {adds:List (Int×Int)}
theorem MgK.lt (k:MgK w X Y V gt LB r D dm dd lev N nn nc L lm lc q0 W X1 S1 F T adds q1 qs):∀g∈mgG w.heap.size gt LB F T,w.heap.size<=g/\g < W.heap.size:=by
 intro g C;have h1:=k.lo;have h2:=k.la.at_.lt
 rcases jv.1 C with rfl|rfl|rfl|rfl|rfl|q|q
 ·have:=k.bx.lt;omega
 ·have:=k.bx.lt;omega
 ·omega
 ·omega
 ·omega
 ·exact k.oa.lt g (oq.1 q)
 ·exact k.ot.lt g (oq.1 q)
theorem MgK.keep (k:MgK w X Y V gt LB r D dm dd lev N nn nc L lm lc q0 W X1 S1 F T adds q1 qs) {G:List Nat} (c:Chg G W W2) (H:∀g∈G,g∈XY X1 Y) (J:Way w X Y V W2 X2 S2) (I:∀g∈XY X2 Y,g∈XY X1 Y\/W.heap.size<=g):MgK w X Y V gt LB r D dm dd lev N nn nc L lm lc q0 W2 X2 S2 F T adds q1 qs:=by
 have C:∀{g},g∈mgG w.heap.size gt LB F T->g∉G:=fun E C=>k.no _ E (H _ C);refine⟨J,⟨(c.block _ (by have:=k.la.at_.lt;omega) (C (jv.2 s_))).trans k.la.1,(c.block _ k.la.at_.lt (C (jv.2 s_))).trans k.la.2⟩,k.lo,k.fix.step (c.mono fun g E=>.inl (p_ _ (H g E))) (fun g E=>?_),k.bx.chg c (C (jv.2 s_)),k.bt.chg c (C (jv.2 s_)),k.b4.chg c (C (jv.2 s_)),jy k.oa c (fun g e=>C (jv.2 (by simp[oq.2 e]))),jy k.ot c (fun g e=>C (jv.2 (by simp[oq.2 e]))),fun g E O=>?_⟩
 ·rcases k_.1 E with q|q
  ·exact .inl (x_ _ q)
  ·exact(I g q).imp (p_ _) id
 ·rcases I g O with q|q
  ·exact k.no g E q
  ·have:=(k.lt g E).2
   omega
theorem MgK.below (k:MgK w X Y V gt LB r D dm dd lev N nn nc L lm lc q0 W X1 S1 F T adds q1 qs) (E:Below W.heap.size W W2):MgK w X Y V gt LB r D dm dd lev N nn nc L lm lc q0 W2 X1 S1 F T adds q1 qs:=
 k.keep (G:=[]) (Chg.of_below E []) (fun g C=>by cases C) (k.way.below E) (fun g C=>.inl C)
theorem MgK.disk (k:MgK w X Y V gt LB r D dm dd lev N nn nc L lm lc q0 W X1 S1 F T adds q1 qs) (e:X2.d=X1.d) (hs:SvAt W2 X2 S2 Y V) (c:Chg (XY X1 Y) W W2) (f:∀g∈XY X2 Y,g∈XY X1 Y\/W.heap.size<=g):MgK w X Y V gt LB r D dm dd lev N nn nc L lm lc q0 W2 X2 S2 F T adds q1 qs:=
 k.keep c (fun g C=>C) ⟨hs,e.trans k.way.d,k.way.c.trans c k.way.f,fun g C=>by
  rcases f g C with q|q
  ·exact k.way.f g q
  ·exact .inr (j_ k.way.c.size q)⟩ f
theorem MgK.loop (h:SvAt w X S Y V) (k:MgK w X Y V gt LB r D dm dd lev N nn nc L lm lc q0 W X1 S1 F T adds q1 qs) (c:Chg [LB,LB+1] W W2) (J:yk3 LB r2 W2):MgK w X Y V gt LB r2 D dm dd lev N nn nc L lm lc q0 W2 X1 S1 F T adds q1 qs:=by
 have h1:=k.lo;have E:∀g∈[LB,LB+1],g∈mgG w.heap.size gt LB F T:=fun g C=>jv.2 (by simp at C;rcases C with q|q<;>simp[q]);have H:=k.la.at_.own k.oa;have I:=k.la.at_.own k.ot;refine⟨Way.scr h k.way (fun g C=>⟨(k.lt g (E g C)).1,k.no g (E g C)⟩) c,J,k.lo,k.fix.step (c.mono fun g C=>.inl (x_ _ (E g C))) (fun g C=>.inl C),k.bx.chg c (by simp;omega),k.bt.chg c (by simp;omega),k.b4.chg c (by simp;omega),jy k.oa c (fun g e=>?_),jy k.ot c (fun g e=>?_),k.no⟩
 all_goals
  intro C;simp only[f_,aL_,or_false]at C
 ·rcases C with rfl|rfl
  ·exact H.1 e
  ·exact H.2 e
 ·rcases C with rfl|rfl
  ·exact I.1 e
  ·exact I.2 e
theorem MgK.addF (h:SvAt w X S Y V) (k:MgK w X Y V gt LB r D dm dd lev N nn nc L lm lc q0 W X1 S1 F T adds q1 qs) {A:Option Addr} {n c:Nat} {O:List (Int×Int)} (ho:W1.ownsRow w.heap.size 89 2 (.slice A n c) n (dw O)) (C:W.grownBy W1 (Value.slice F.a F.n F.c).ownBlock)
  (hk:(Value.slice A n c).ownBlock=(Value.slice F.a F.n F.c).ownBlock\/(Value.slice A n c).ownBlock=some W.heap.size):MgK w X Y V gt LB r D dm dd lev N nn nc L lm lc q0 (W1.setCell ⟨w.heap.size+5,1,none⟩ (.slice A n c)) X1 S1 ⟨A,n,c⟩ T O q1 qs:=by
 have c1:Chg (blk F) W W1:=Chg.qy C fun b e=>oq.2 e;have U:=k.lo;have b1:=ew1 k.oa k.bx (by decide);have b2:=ew1 k.oa k.bt (by decide);have Q:=k.bx.chg c1 (fun E=>b1 (oq.1 E));have b3:=ew1 ho Q (by decide);have c2:Chg [w.heap.size+5] W1 (W1.setCell ⟨w.heap.size+5,1,none⟩ (.slice A n c)):=(Chg.refl _ _).setCell _ (.inl s_);have J:Chg ([w.heap.size+5] ++blk F) W (W1.setCell ⟨w.heap.size+5,1,none⟩ (.slice A n c)):=(c1.mono fun g C=>.inl (p_ _ C)).trans c2 fun g C=>.inl (x_ _ C);have E:∀g∈[w.heap.size+5] ++blk F,g∈mgG w.heap.size gt LB F T:=fun g C=>jv.2 (by
  rcases k_.1 C with q|q
  ·exact .inr (.inl (a_.1 q))
  ·simp[q])
 have o1:=k.la.at_.own k.oa;have o2:=gx4 k.oa k.ot (by decide);have hn:∀g,g∈blk (⟨A,n,c⟩:Sl)->g∈blk F\/g=W.heap.size:=fun g C=>by
  have e:=oq.1 C
  rcases hk with q|q
  ·exact .inl (oq.2 (q.symm.trans e))
  ·exact .inr (by rw[q]at e;injection e with e;exact e.symm)
 have Z:=k.way.at_.lt;have hG:∀{g},g∈mgG w.heap.size gt LB ⟨A,n,c⟩ T->g∈mgG w.heap.size gt LB F T\/g=W.heap.size:=fun C=>by
  rcases jv.1 C with q|q|q|q|q|q|q
  ·exact .inl (jv.2 (.inl q))
  ·exact .inl (jv.2 (.inr (.inl q)))
  ·exact .inl (jv.2 (.inr (.inr (.inl q))))
  ·exact .inl (jv.2 (.inr (.inr (.inr (.inl q)))))
  ·exact .inl (jv.2 (.inr (.inr (.inr (.inr (.inl q))))))
  ·exact(hn _ q).imp (fun q=>jv.2 (.inr (.inr (.inr (.inr (.inr (.inl q))))))) id
  ·exact .inl (jv.2 (.inr (.inr (.inr (.inr (.inr (.inr q)))))))
 have H:∀g,g∉[w.heap.size+5]->g∉blk F->g∉[w.heap.size+5] ++blk F:=fun g h1 h2 E=>(k_.1 E).elim h1 h2;have a0:=k.la.at_.lt;refine⟨Way.scr h k.way (fun g C=>⟨(k.lt g (E g C)).1,k.no g (E g C)⟩) J,⟨(J.block _ o_ (H _ (by simp;omega) fun E=>o1.1 (oq.1 E))).trans k.la.1,(J.block _ a0 (H _ (by simp;omega) fun E=>o1.2 (oq.1 E))).trans k.la.2⟩,U,k.fix.step (J.mono fun g C=>.inl (x_ _ (E g C))) (fun g C=>?_),?_,k.bt.chg J (H _ (by simp;omega) fun E=>b2 (oq.1 E)),k.b4.chg J (H _ s_ fun E=>ew1 k.oa k.b4 (by decide) (oq.1 E)),jy ho c2 (fun g e I=>b3 (by rw[e,a_.1 I])),jy k.ot J (fun g e=>H _ (fun I=>ew1 k.ot k.bx (by decide) (by rw[e,a_.1 I])) fun I=>o2 g e (oq.1 I)),fun g C=>?_⟩
 ·rcases k_.1 C with q|q
  ·rcases hG q with q|q
   ·exact .inl (x_ _ q)
   ·exact .inr o_
  ·exact .inl (p_ _ q)
 ·exact Q.store 1 (.slice A n c)
 ·rcases hG C with q|q
  ·exact k.no g q
  ·intro E
   have:=Z g E;omega
theorem MgK.tab (k:MgK w X Y V gt LB r D dm dd lev N nn nc L lm lc q0 W X1 S1 F T adds q1 qs) {x:Tq} (E:vz (mgG w.heap.size gt LB F T++XY X1 Y) W fun W=>TbAt W x.2 x.1.2):MgK w X Y V gt LB r D dm dd lev N nn nc L lm lc q0 W X1 S1 F T adds q1 (qs++[x]):=
 { k with fix:=(k.fix.and E).mono fun I C=>⟨C.1.1,fun p H=>by
  rcases k_.1 H with q|q
  ·exact C.1.2 p q
  ·rw[a_.1 q]
   exact C.2⟩ }
theorem MgK.addT (h:SvAt w X S Y V) (k:MgK w X Y V gt LB r D dm dd lev N nn nc L lm lc q0 W X1 S1 F T adds q1 qs) {A:Option Addr} {n c:Nat} {x:Tq} (ho:W1.ownsRow w.heap.size 92 3 (.slice A n c) n (hcells (q0++(q1++[x])))) (C:W.grownBy W1 (Value.slice T.a T.n T.c).ownBlock)
  (hk:(Value.slice A n c).ownBlock=(Value.slice T.a T.n T.c).ownBlock\/(Value.slice A n c).ownBlock=some W.heap.size):MgK w X Y V gt LB r D dm dd lev N nn nc L lm lc q0 (W1.setCell ⟨gt,0,none⟩ (.slice A n c)) X1 S1 F ⟨A,n,c⟩ adds (q1++[x]) qs:=by
 have c1:Chg (blk T) W W1:=Chg.qy C fun b e=>oq.2 e;have Q:=k.lo;have b1:=ew1 k.ot k.bx (by decide);have b2:=ew1 k.ot k.bt (by decide);have O:=k.bt.chg c1 (fun E=>b2 (oq.1 E));have b3:=ew1 ho O (by decide);have c2:Chg [gt] W1 (W1.setCell ⟨gt,0,none⟩ (.slice A n c)):=(Chg.refl _ _).setCell _ (.inl s_);have J:Chg ([gt] ++blk T) W (W1.setCell ⟨gt,0,none⟩ (.slice A n c)):=(c1.mono fun g C=>.inl (p_ _ C)).trans c2 fun g C=>.inl (x_ _ C);have E:∀g∈[gt] ++blk T,g∈mgG w.heap.size gt LB F T:=fun g C=>jv.2 (by
  rcases k_.1 C with q|q
  ·exact .inr (.inr (.inl (a_.1 q)))
  ·simp[q])
 have o1:=k.la.at_.own k.ot;have o2:=gx4 k.ot k.oa (by decide);have hn:∀g,g∈blk (⟨A,n,c⟩:Sl)->g∈blk T\/g=W.heap.size:=fun g C=>by
  have e:=oq.1 C
  rcases hk with q|q
  ·exact .inl (oq.2 (q.symm.trans e))
  ·exact .inr (by rw[q]at e;injection e with e;exact e.symm)
 have U:=k.way.at_.lt;have hG:∀{g},g∈mgG w.heap.size gt LB F ⟨A,n,c⟩->g∈mgG w.heap.size gt LB F T\/g=W.heap.size:=fun C=>by
  rcases jv.1 C with q|q|q|q|q|q|q
  ·exact .inl (jv.2 (.inl q))
  ·exact .inl (jv.2 (.inr (.inl q)))
  ·exact .inl (jv.2 (.inr (.inr (.inl q))))
  ·exact .inl (jv.2 (.inr (.inr (.inr (.inl q)))))
  ·exact .inl (jv.2 (.inr (.inr (.inr (.inr (.inl q))))))
  ·exact .inl (jv.2 (.inr (.inr (.inr (.inr (.inr (.inl q)))))))
  ·exact(hn _ q).imp (fun q=>jv.2 (.inr (.inr (.inr (.inr (.inr (.inr q))))))) id
 have H:∀g,g∉[gt]->g∉blk T->g∉[gt] ++blk T:=fun g h1 h2 E=>(k_.1 E).elim h1 h2;have Z:=k.la.at_.lt;refine⟨Way.scr h k.way (fun g C=>⟨(k.lt g (E g C)).1,k.no g (E g C)⟩) J,⟨(J.block _ o_ (H _ (by simp;omega) fun E=>o1.1 (oq.1 E))).trans k.la.1,(J.block _ Z (H _ (by simp;omega) fun E=>o1.2 (oq.1 E))).trans k.la.2⟩,Q,k.fix.step (J.mono fun g C=>.inl (x_ _ (E g C))) (fun g C=>?_),k.bx.chg J (H _ (by simp;omega) fun E=>b1 (oq.1 E)),O.store 0 (.slice A n c),k.b4.chg J (H _ (by simp;omega) fun E=>ew1 k.ot k.b4 (by decide) (oq.1 E)),jy k.oa J (fun g e=>H _ (fun I=>ew1 k.oa k.bt (by decide) (by rw[e,a_.1 I])) fun I=>o2 g e (oq.1 I)),jy ho c2 (fun g e I=>b3 (by rw[e,a_.1 I])),fun g C=>?_⟩
 ·rcases k_.1 C with q|q
  ·rcases hG q with q|q
   ·exact .inl (x_ _ q)
   ·exact .inr o_
  ·exact .inl (p_ _ q)
 ·rcases hG C with q|q
  ·exact k.no g q
  ·intro E
   have:=U g E;omega
structure MgE (w:World) (X:Dw) (Y:Yw) (LB:Nat) (D:Option Addr) (dm dd:Nat) (W:World) (S1:Sd) (V1:Sv) (X1:Dw) (Y1:Yw):Prop where
 d:X1.d=X.d
 s:Y1.s=Y.s
 at_:SvAt W X1 S1 Y1 V1
 c:Chg (XY X Y) w W
 f:∀g∈XY X1 Y1,g∈XY X Y\/w.heap.size<=g
 no:w.heap.size+4∉XY X1 Y1/\LB∉XY X1 Y1
 lb:w.heap.size+4 < LB
 tb:vz ((w.heap.size+4)::LB::XY X1 Y1) W fun W=>fy1 W Y1.T Y1.q V1.tabs
 st:vz ((w.heap.size+4)::LB::XY X1 Y1) W fun W=>Its 0 W Y1.A.a Y1.A.n Y1.A.c V1.st
 pb:∀j,j < (dw V1.M.v.files).length->∀a,Y1.P.a=some a->a.block≠w.heap.size+4/\a.block≠LB
 bx:vz (XY X1 Y1) W fun W=>BoxO W 37 w.heap.size [.pointer (some ⟨Y.s,0,none⟩)]/\BoxO W 30 (w.heap.size+1) [.slice D dm dd]/\BoxO W 34 (w.heap.size+4) [.int .i64 0]/\W.heap[LB]?=some (.deferred (some []))
theorem MgE.below (k:MgE w X Y LB D dm dd W S1 V1 X1 Y1) (C:Below W.heap.size W W2):MgE w X Y LB D dm dd W2 S1 V1 X1 Y1:=
 ⟨k.d,k.s,k.at_.below C,k.c.trans (Chg.of_below C []) (fun g E=>by cases E),k.f,k.no,k.lb,k.tb.below C,k.st.below C,k.pb,k.bx.below C⟩
theorem MgE.disk (k:MgE w X Y LB D dm dd W S1 V1 X1 Y1) (O:UpdM X1 W W2 S2):∃X2,MgE w X Y LB D dm dd W2 S2 V1 X2 Y1:=by
 obtain⟨X2,e,h1,c1,f1⟩:=k.at_.disk O;have H:=k.bx.now;have Q:=H.2.2.1.lt;have U:=(A_.1 H.2.2.2).1;have I:∀g∈(w.heap.size+4)::LB::XY X2 Y1,g∈(w.heap.size+4)::LB::XY X1 Y1\/W.heap.size<=g:=fun g C=>by
  rcases f_.1 C with q|q
  ·exact .inl (by rw[q];exact i_)
  ·rcases f_.1 q with q|q
   ·exact .inl (by rw[q];exact e_ _ i_)
   ·exact(f1 g q).imp (fun q=>e_ _ (e_ _ q)) id
 have J:Chg ((w.heap.size+4)::LB::XY X1 Y1) W W2:=c1.mono fun g C=>.inl (e_ _ (e_ _ C));exact⟨X2,e.trans k.d,k.s,h1,k.c.trans c1 k.f,fun g C=>by
  rcases f1 g C with q|q
  ·exact k.f g q
  ·exact .inr (j_ k.c.size q),⟨fun E=>(f1 _ E).elim k.no.1 o_,fun E=>(f1 _ E).elim k.no.2 o_⟩,k.lb,k.tb.step J I,k.st.step J I,k.pb,k.bx.step c1 f1⟩
def xk3 (X:Dw) (Y:Yw) (w w1:World) (S1:Sd) (V1:Sv) (N:Sl):Prop:=∃X1 Y1,X1.d=X.d/\Y1.s=Y.s/\SvAt w1 X1 S1 Y1 V1/\Chg (XY X Y) w w1/\(∀g∈XY X1 Y1,g∈XY X Y\/w.heap.size<=g)/\(Y1.A=Y.A\/Y1.A=N)
theorem MgE.post (Z:SvAt w X S Y V) (k:MgE w X Y LB D dm dd W S1 V1 X1 Y1) {N:Sl} (hN:Y1.A=Y.A\/Y1.A=N) (v:Value):xk3 X Y w ((W.setCell ⟨w.heap.size+4,0,none⟩ v).putObj LB (.deferred none)) S1 V1 N/\((W.setCell ⟨w.heap.size+4,0,none⟩ v).putObj LB (.deferred none)).cell? ⟨w.heap.size+4,0,none⟩=some v:=by
 have U:=k.bx.now;have l5:=(A_.1 U.2.2.2).1;have a1:=k.lb;have c1:Chg [w.heap.size+4,LB] W (W.setCell ⟨w.heap.size+4,0,none⟩ v):=(Chg.refl _ _).setCell _ (.inl s_);have c2:Chg [w.heap.size+4,LB] (W.setCell ⟨w.heap.size+4,0,none⟩ v) ((W.setCell ⟨w.heap.size+4,0,none⟩ v).putObj LB (.deferred none)):=⟨rfl,rfl,rfl,by simp,fun g _ C=>aa_ (fun e=>C (by simp[e]))⟩;have E:=c1.trans c2 (fun g C=>.inl C);have O:∀g∈[w.heap.size+4,LB],g∉XY X1 Y1/\NG<=g/\w.heap.size<=g:=fun g C=>by
  have:=Z.dm.env.base
  rcases f_.1 C with q|q
  ·rw[q]
   exact⟨k.no.1,o_,o_⟩
  ·rw[a_.1 q]
   exact⟨k.no.2,o_,o_⟩
 have H:∀g∈Y1.foot,g∉[w.heap.size+4,LB]:=fun g h1 h2=>(O g h2).1 (p_ _ h1);have a2:∀{g},g∈(w.heap.size+4)::LB::XY X1 Y1\/W.heap.size<=g->g∈(w.heap.size+4)::LB::XY X1 Y1\/W.heap.size<=g:=id;have J:Chg ((w.heap.size+4)::LB::XY X1 Y1) W ((W.setCell ⟨w.heap.size+4,0,none⟩ v).putObj LB (.deferred none)):=E.mono fun g C=>.inl (by
  rcases f_.1 C with q|q
  ·rw[q];exact i_
  ·rw[a_.1 q];exact e_ _ i_)
 have I:∀g∈XY X1 Y1,g∈(w.heap.size+4)::LB::XY X1 Y1\/W.heap.size<=g:=fun g C=>.inl (e_ _ (e_ _ C));have h:=k.at_;refine⟨⟨X1,Y1,k.d,k.s,⟨h.dm.chg E (fun g C=>⟨fun Q=>(O g C).1 (x_ _ Q),(O g C).2.1⟩),h.box.chg E (H _ (Yw.aj.2 (.inl rfl))),h.man.chg E (H _ (Yw.aj.2 (.inr (.inl rfl)))),⟨(kz E h.row.row l_ (fun j hj a ha Q=>?_)).up E.size,h.row.nc,h.row.cm,h.row.nb,h.row.away⟩,h.pout,h.log.chg E (H _ (Yw.aj.2 (.inr (.inr (.inl rfl))))),h.mem.chg E (fun g C=>H g (Yw.aj.2 ?_)),h.its,k.tb.step J I,k.st.step J I,h.apart,h.ng⟩,k.c.trans E (fun g C=>.inr (O g C).2.2),k.f,hN⟩,?_⟩
 ·have:=k.pb j hj a ha
  simp only[f_,aL_,or_false]at Q;omega
 ·rcases f_.1 C with rfl|C
  ·exact .inr (.inr (.inr (.inl rfl)))
  ·exact .inr (.inr (.inr (.inr C)))
 ·exact(aH_ (aa_ (by simp;omega))).trans (bt_ W ⟨w.heap.size+4,0,none⟩ v (U.2.2.1.cell 0))
theorem wj1 {P:Program} {F:Fence} {nF:Nat} {ops:Array Oper} {rest:List Oper} {o:Oper} {a:Act} {w:World} {Q:Exit->Act->World->Prop} (I:o.guard=none) (s x:Operand) (t:TypeId)
  (ho:o.op=.call { callee:=.builtin .append,args:=#[s,x],argTypes:=#[t,t] })
  (base:Nat) (e:TypeId) (i:TypeInfo) (z:Value) (size bytes:Nat) (ht:P.underlying t=some (.slice e)) (hi:P.info? e=some i) (hz:i.zero=some z)
  (J:i.size=size) (Z:i.bytes=bytes) (a0:z.cells.size=size) (a1:0 < size) (O:base<=w.heap.size) (v:Value) (n:Nat) (xs:List Value) (hs:a.eval s=v) (U:w.ownsRow base e size v n xs)
  (B:Nat) (A:Option Addr) (m c:Nat) (news:List Value) (hx:a.eval x=.slice A m c) (hr:Row B w A m size news) (h1:∀u∈news,u.oneCell'=true)
  (N:Nat) (X:List Value) (hN:n+m=N) (hX:xs++news=X) (a2:N<=maxLen) (C:N *bytes<=140737488355328)
  (h:∀A' H w',w'.ownsRow base e size (.slice A' N H) N X->w.grownBy w' v.ownBlock->N<=H->H<=maxLen->((Value.slice A' N H).ownBlock=v.ownBlock\/(Value.slice A' N H).ownBlock=some w.heap.size)->wpListIn F nF P ops Q rest (a.put o.dst (.slice A' N H)) w'):
  wpListIn F nF P ops Q (o::rest) a w:=by
 refine wpListIn_plain I fun K hK=>?_;have:=mz1 (F:=F) (nF:=nF) (ops:=ops) (Q:=Q) (E:=True) (K:=K) I s x t ho base e i z size bytes ht hi hz J Z a0 a1 O v n xs hs U B A m c news hx hr h1 N X hN hX a2 C fun A' H w' h2 h3 h4 h5 h6=>hK _ _ (h A' H w' h2 h3 h4 h5 h6)
 rwa [if_pos (by simp[Region.wanted,I])]at this
theorem nq4 {m len B:Nat} {w:World} {p:Addr} {l:List It} (E:Row B w (some p) len 5 (itc l)) (x:Ck m len):Row B w (some (p.add (x.1 *m *5))) x.len 5 (itc (Ck.of l x)):=by
 have H:=x.2;have C:x.1 *m+x.len<=len:=by unfold Ck.len;omega
 have h2:=E.cut (k:=x.1 *m) (m:=x.1 *m+x.len) (A':=some (p.add (x.1 *m *5))) o_ C (fun _=>rfl);rw[show x.1 *m+x.len - x.1 *m=x.len from by omega]at h2;rw[show itc (Ck.of l x)=((itc l).drop (x.1 *m *5)).take (x.len *5) from by unfold Ck.of;rw[dz1,pq1];exact ik4 l (x.1 *m) m E.qj];exact h2
end
section
attribute [local go_sem] Oper.semAt_some
variable {w w1 w2:World} {X X1 X2:Dw} {S S1 S2:Sd} {Y Y1 Y2:Yw} {V V1 V2:Sv}
theorem St.xz1:∀(l:List Int) (S:Sd),(St.drops l S).load<=S.load+l.length
 |[],_=>y_ _
 |n::l,S=>j_ (St.xz1 l _) (by have:=Sd.cx1 S (Mn.name Mn.kTab n);rw[q_];omega)
def MgD (w:World) (X:Dw) (Y:Yw) (LB:Nat) (D:Option Addr) (dm dd:Nat) (inn:List Int) (Tr:Sd×Sv×Nat) (Y2:Yw) (j:Nat) (wr:World):Prop:=∃S3 X3,S3=(if Tr.2.2=0 then St.drops (inn.take j) Tr.1 else Tr.1)/\MgE w X Y LB D dm dd wr S3 Tr.2.1 X3 Y2
def NoP (Q:Exit->Act->World->Prop):Exit->Act->World->Prop
 |.panic _,_,_=>False
 |e,a,w=>Q e a w
theorem av6 {P:Program} {c:Code} {Q:Exit->Act->World->Prop} {a:Act} {w:World} (h:c.wp P (NoP Q) a w):c.wp P Q a w:=Code.wp_mono (fun e a w q=>by cases e<;>first|exact q|exact q.elim) h
theorem qw5 (w:World) (s:Nat) (D:Option Addr) (dm dd:Nat) (lev:Int) (N:Option Addr) (nn nc:Nat) (W:World) (C:W=((((((w.alloc (.cells #[.pointer (some ⟨s,0,none⟩)] 37)).alloc (.cells #[.slice D dm dd] 30)).alloc (.cells #[.int .i64 lev] 3)).alloc (.cells #[.slice N nn nc] 26)).alloc (.cells #[.int .i64 0] 34)).alloc (.cells #[.slice D dm dd,.slice none 0 0,.int .i64 0,.int .u64 0,.int .u64 0,.int .u64 0,.int .u64 0] 131))):
  (BoxO W 37 w.heap.size [.pointer (some ⟨s,0,none⟩)]/\BoxO W 30 (w.heap.size+1) [.slice D dm dd]/\BoxO W 3 (w.heap.size+2) [.int .i64 lev]/\BoxO W 26 (w.heap.size+3) [.slice N nn nc]/\BoxO W 34 (w.heap.size+4) [.int .i64 0]/\
   BoxO W 131 (w.heap.size+5) [.slice D dm dd,.slice none 0 0,.int .i64 0,.int .u64 0,.int .u64 0,.int .u64 0,.int .u64 0])/\W.heap.size=w.heap.size+6/\Below w.heap.size w W:=by
 subst C;refine⟨⟨?_,?_,?_,?_,?_,?_⟩,by simp,?_⟩
 ·exact(((((BoxO.new w _ _).alloc _).alloc _).alloc _).alloc _).alloc _
 ·have h:=((((BoxO.new (w.alloc (.cells #[.pointer (some ⟨s,0,none⟩)] 37)) #[.slice D dm dd] 30).alloc (.cells #[.int .i64 lev] 3)).alloc (.cells #[.slice N nn nc] 26)).alloc (.cells #[.int .i64 0] 34)).alloc (.cells #[.slice D dm dd,.slice none 0 0,.int .i64 0,.int .u64 0,.int .u64 0,.int .u64 0,.int .u64 0] 131)
  simpa using h
 ·have h:=(((BoxO.new ((w.alloc (.cells #[.pointer (some ⟨s,0,none⟩)] 37)).alloc (.cells #[.slice D dm dd] 30)) #[.int .i64 lev] 3).alloc (.cells #[.slice N nn nc] 26)).alloc (.cells #[.int .i64 0] 34)).alloc (.cells #[.slice D dm dd,.slice none 0 0,.int .i64 0,.int .u64 0,.int .u64 0,.int .u64 0,.int .u64 0] 131)
  simpa using h
 ·have h:=((BoxO.new (((w.alloc (.cells #[.pointer (some ⟨s,0,none⟩)] 37)).alloc (.cells #[.slice D dm dd] 30)).alloc (.cells #[.int .i64 lev] 3)) #[.slice N nn nc] 26).alloc (.cells #[.int .i64 0] 34)).alloc (.cells #[.slice D dm dd,.slice none 0 0,.int .i64 0,.int .u64 0,.int .u64 0,.int .u64 0,.int .u64 0] 131)
  simpa using h
 ·have h:=(BoxO.new ((((w.alloc (.cells #[.pointer (some ⟨s,0,none⟩)] 37)).alloc (.cells #[.slice D dm dd] 30)).alloc (.cells #[.int .i64 lev] 3)).alloc (.cells #[.slice N nn nc] 26)) #[.int .i64 0] 34).alloc (.cells #[.slice D dm dd,.slice none 0 0,.int .i64 0,.int .u64 0,.int .u64 0,.int .u64 0,.int .u64 0] 131)
  simpa using h
 ·have h:=BoxO.new (((((w.alloc (.cells #[.pointer (some ⟨s,0,none⟩)] 37)).alloc (.cells #[.slice D dm dd] 30)).alloc (.cells #[.int .i64 lev] 3)).alloc (.cells #[.slice N nn nc] 26)).alloc (.cells #[.int .i64 0] 34)) #[.slice D dm dd,.slice none 0 0,.int .i64 0,.int .u64 0,.int .u64 0,.int .u64 0,.int .u64 0] 131
  simpa using h
 ·exact((((((Below.refl _ w).alloc l_ _).alloc s_ _).alloc (by simp;omega) _).alloc (by simp;omega) _).alloc (by simp;omega) _).alloc (by simp;omega) _
theorem kz46 {P S a oi v} (h:Hv P S a oi v:=by intro w a7;(obtain⟨g0,g1⟩:=s'.out _ a7);go_simp;try (with_reducible rfl)):Hv P S a oi v:=h
theorem jz2 (h:SvAt w X S Y V) (D:Option Addr) (dm dd:Nat) (inn:List Int) (lev:Int) (L:Option Addr) (lm lc:Nat) (l:List It) (N:Option Addr) (nn nc:Nat) (next:List It)
  (J8:dm<=1000) (t2:Row w.heap.size w D dm 1 (uw inn)) (o1:∀a,D=some a->a.block∉XY X Y/\a.block < w.heap.size) (D6:∀n∈inn,0<=n/\n<=2147483648)
  (D7:lm<=100000) (D8:lm<=lc) (g7:Row w.heap.size w L lm 5 (itc l)) (D9:∀a,L=some a->a.block∉XY X Y) (t3:∀x∈l,x.fit) (D':∀r∈Tb.cut 200 l.length l,Tb.good r=true)
  (t4:vz (XY X Y) w fun w=>Its 0 w N nn nc next) (E0:V.M.v.files.length<=40) (J9:V.tabs.length<=1000) (E1:V.M.count<=1000000000) (E2:V.M.name.length<=1000) (J':S.load<=100000000000):
  Calls prog 34 #[.pointer (some ⟨Y.s,0,none⟩),.slice D dm dd,.int .i64 lev,.slice L lm lc,.slice N nn nc] w fun e w'=>e=.returned (.int .i64 ((St.merge S V inn lev l next).2.2:Int))/\xk3 X Y w w' (St.merge S V inn lev l next).1 (St.merge S V inn lev l next).2.1 ⟨N,nn,nc⟩:=by
 obtain⟨R,hR⟩:=n_ (St.merge S V inn lev l next);rw[<-hR];have g8:=g7.qj;have m6:=h.lt;obtain⟨W,hW⟩:=n_ (((((((w.alloc (.cells #[.pointer (some ⟨Y.s,0,none⟩)] 37)).alloc (.cells #[.slice D dm dd] 30)).alloc (.cells #[.int .i64 lev] 3)).alloc (.cells #[.slice N nn nc] 26)).alloc (.cells #[.int .i64 0] 34)).alloc (.cells #[.slice D dm dd,.slice none 0 0,.int .i64 0,.int .u64 0,.int .u64 0,.int .u64 0,.int .u64 0] 131)));obtain⟨⟨b0,b1,b2,b3,b4,b5⟩,t6,f5⟩:=qw5 w Y.s D dm dd lev N nn nc W hW;have k1:Way w X Y V W X S:=⟨h.below f5,rfl,Chg.of_below f5 _,fun _ E=>.inl E⟩;have t0:=b0.cell 0;have t1:=b1.cell 0;have c4:=k1.at_.box.cell 4;simp only[Yw.cells,gE0,gE1]at t0 t1 c4;obtain⟨hq,hrow,E4,E5,l4,E6⟩:=h.tabs.now;have d2:=h.tlen;have t9:=xy1 Y.T.a Y.T.n Y.T.c Y.q W o_ l4 ((hrow.below f5).up f5.size);have t':=H_ t9;have HH:=H_ h;have E7:=H_ k1;have HB:=H_ (c_ b0 (c_ b1 (c_ b2 (c_ b3 (c_ b4 b5)))));have HW:=H_ (c_ t6 (c_ f5 m6));have HR:=H_ hR;have g':=H_ t2;have u2:=H_ g7;have E8:=H_ t4;have d3:=H_ g8;have HQ:=H_ hq;have l5:=H_ d2;rw[hW]at t0 t1 c4;clear t9 h k1 b0 b1 b2 b3 b4 b5 t6 f5 m6 hR t2 g7 t4 g8 hq d2 hrow E4 E5 l4 E6;refine(callsIn_wide (n:=6)).1 ?_;refine callsIn_of_wp_marks func34 rfl trivial ?_ rfl;simp only[ntmps34,aA_,q_,V_,Nat.reduceAdd,Nat.reduceSub,bd_,be_,bs_,bi_,C_,T_]
 gi_wp2_with fail
 rw[<-hW];clear t0 t1 c4 hW;refine⟨trivial,?_⟩
 with_reducible refine(callsIn_wide.2 t'.out).mono ?_
 rintro e w2 ⟨A2,c2,rfl,l6,d4⟩;have h':∀a,A2=some a->W.heap.size<=a.block:=(mx1 l6).2.2;have u3:=vv3 94 (fun _ _=>rfl) #[.pointer (some ⟨w.heap.size+1,0,none⟩)] (fun x=>decide (x.1.1.2∈inn)) W.heap.size A2 Y.T.n c2 c2 Y.q w2 (by have:=l5.out;omega) (mx1 l6).1 d4.size l6 (fun x J hc=>by
  have c3:=bw2 hc;have d':=HW.out.1;have u4:=(g'.out.below (HW.out.2.1.trans (d4.mono HW.out.2.1.size))).up (j_ HW.out.2.1.size d4.size);refine cy4 x inn D dm dd (w.heap.size+1) J o_ (((HB.out.2.1.below d4).chg c3 (sq1 fun a ha=>by have:=h' a ha;omega)).cell 0) ((kz c3 u4 l_ (fun j hj a ha C=>?_)).up c3.size);obtain⟨a',e,q1,_⟩:=g'.out.cell j hj;rw[ha]at e;injection e with e;subst e;have:=sq1 (g:=a.block) (A:=A2) (fun a2 E9=>by have:=h' a2 E9;omega);exact this C)
 have u5:=H_ u3;have f6:=H_ d4;clear u3 l6 d4 h' t'
 gi_wp2_with fail
 refine⟨trivial,?_⟩
 with_reducible refine(callsIn_wide.2 u5.out).mono ?_
 rintro e J ⟨k,A3,rfl,hk,f7,u6⟩;have K1:=H_ hk;have H3:=H_ (c_ f7 (f6.out.trans u6));clear hk f7 u6 u5 f6
 gi_wp2_with (refine⟨trivial,?_⟩;gi_at_call 95;refine(tq3 Fence.wide 5 trivial rfl L lm lc 200 o_ _).mono ?_;rintro e w' ⟨rfl,rfl⟩)
 obtain⟨p,hp⟩:∃p,0 < lm->L=some p:=by
  cases L with
  |none=>
   refine⟨⟨0,0,none⟩,fun h=>?_⟩;obtain⟨a,_,e,_⟩:=u2.out.it h
   cases e
  |some p=>exact⟨p,fun _=>rfl⟩
 have u7:=H3.out.2.size;have d':=HW.out.1;have bt:=BoxO.new J #[.slice A3 k c2] 64;have bS:=BoxO.new (J.alloc (.cells #[.slice A3 k c2] 64)) #[.slice L lm lc] 26;have bM:=BoxO.new ((J.alloc (.cells #[.slice A3 k c2] 64)).alloc (.cells #[.slice L lm lc] 26)) #[.int .i64 ((200:Nat):Int)] 3;simp only[Q_]at bS bM;have e0:=((b_ J (.cells #[.slice A3 k c2] 64)).alloc s_ (.cells #[.slice L lm lc] 26)).alloc (by simp;omega) (.cells #[.int .i64 ((200:Nat):Int)] 3);have l7:=(bt.alloc (.cells #[.slice L lm lc] 26)).alloc (.cells #[.int .i64 ((200:Nat):Int)] 3);have i2:=bS.alloc (.cells #[.int .i64 ((200:Nat):Int)] 3);have i3:=pz4 Fence.wide 5 trivial rfl o_ (J.heap.size+1) (J.heap.size+1+1) (fun W Q=>Q.heap[J.heap.size+1]?=W.heap[J.heap.size+1]?/\Q.heap[J.heap.size+1+1]?=W.heap[J.heap.size+1+1]?) (fun W Q h=>⟨aH_ h.1,aH_ h.2⟩) p L lm lc 200 hp l d3.out o_ o_ D7 D8 (N:=lm) (fun k hk=>o_) (((J.alloc (.cells #[.slice A3 k c2] 64)).alloc (.cells #[.slice L lm lc] 26)).alloc (.cells #[.int .i64 ((200:Nat):Int)] 3)) s_ s_ (i2.cell 0) (bM.cell 0);rw[show ((200:Nat):Int)=(200:Int) from rfl]at i3 e0 l7 i2 bM;obtain⟨I,o3⟩:=n_ ((((J.alloc (.cells #[.slice A3 k c2] 64)).alloc (.cells #[.slice L lm lc] 26)).alloc (.cells #[.int .i64 200] 3)));have e2:I.heap.size=J.heap.size+3:=by rw[o3];simp
 rw[<-o3]at i3 e0 l7 i2 bM ⊢;obtain⟨q0,o4⟩:=n_ (Y.q.filter fun x=>!decide (x.1.1.2∈inn));have f7:=H3.out.1;rw[<-o4]at f7;have u8:Below w.heap.size w I:=HW.out.2.1.trans ((az H3.out.2 e0).mono HW.out.2.1.size);have i4:∀Q r,Below I.heap.size I Q->yk3 I.heap.size r Q->MgK w X Y V J.heap.size I.heap.size r D dm dd lev N nn nc L lm lc q0 Q X S ⟨none,0,0⟩ ⟨A3,k,c2⟩ [] [] []:=by
  intro Q r hb d5;have u9:=E7.out.below ((az H3.out.2 e0).trans (hb.mono o_));have f8:=own_below (own_below f7 e0) hb;have hx:=HW.out.2.2;have hn:∀g,w.heap.size<=g->g < w.heap.size+4\/g=J.heap.size+1\/g=J.heap.size+2->g∉blk ⟨A3,k,c2⟩->g∉mgG w.heap.size J.heap.size I.heap.size ⟨none,0,0⟩ ⟨A3,k,c2⟩++XY X Y:=fun g h1 h2 h3 C=>by
   rcases k_.1 C with q|q
   ·rcases jv.1 q with q|q|q|q|q|q|q
    ·omega
    ·omega
    ·omega
    ·omega
    ·omega
    ·simp[blk,Value.ownBlock]at q
    ·exact h3 q
   ·have:=hx g q
    omega
  have U:Below W.heap.size W Q:=(az H3.out.2 e0).trans (hb.mono o_);obtain⟨a0,a1,a2,a3,a4,a5⟩:=HB.out;have F0:=l7.below hb;have v3:=i2.below hb;have v4:=bM.below hb;have F1:=a5.below U;have H:∀{e:TypeId} {g:Nat} {ys:List Value},BoxO Q e g ys->92≠e->g∉blk ⟨A3,k,c2⟩:=fun F3 F4 C=>ew1 f8 F3 F4 (oq.1 C);refine⟨u9,d5,⟨o_,o_⟩,fun K4 c=>⟨⟨(a0.below U).chg c (hn _ o_ o_ (H (a0.below U) (by decide))),(a1.below U).chg c (hn _ o_ o_ (H (a1.below U) (by decide))),(a2.below U).chg c (hn _ o_ o_ (H (a2.below U) (by decide))),(a3.below U).chg c (hn _ o_ o_ (H (a3.below U) (by decide))),v3.chg c (hn _ o_ o_ (H v3 (by decide))),v4.chg c (hn _ o_ o_ (H v4 (by decide)))⟩,fun p hp=>by cases hp⟩,F1,F0,a4.below U,E_ _ _ _ _,by rw[ak_];exact own_base f8 o_,fun g E C=>?_⟩;have K5:w.heap.size<=g:=by
   rcases jv.1 E with q|q|q|q|q|q|q
   ·omega
   ·omega
   ·omega
   ·omega
   ·omega
   ·simp[blk,Value.ownBlock]at q
   ·have:=(f8.lt g (oq.1 q)).1
    omega
  have:=hx g C;omega
 have o5:=H_ i4;have HP:=H_ hp;have i5:=H_ e2;have i6:=H_ u8;have o6:=H_ o4;have l8:=H_ (c_ d' u7);clear i4 hp e2 u8 o4 d' u7 f7 bt bS bM l7 i2 e0 o3 H3;rename_i Kq v5;refine tz1 (α:=Ck 200 lm) (n:=6) (encs:=fun x=>#[Ck.val p x]) rfl o_ (gf:=166) (lb:=#[.pointer (some ⟨J.heap.size+1,0,none⟩),.pointer (some ⟨J.heap.size+1+1,0,none⟩)]) rfl trivial (enters_of func166 (by kernel_rfl) rfl) i3 (fun h k=>⟨k.1.trans h.1,k.2.trans h.2⟩) ?hKb b0_ (fun _=>rfl)
  (fun pre W=>(pre=[]/\W=I)\/∃r S1 X1 F T q1,MgK w X Y V J.heap.size I.heap.size r D dm dd lev N nn nc L lm lc q0 W X1 S1 F T (q1.map (·.1.1)) q1 q1/\pre.map (Ck.of l)=(Tb.cut 200 lm l).take pre.length/\St.writes lev (pre.map (Ck.of l)) S []=(S1,q1.map (·.1),0)/\S1.load<=S.load+3 *pre.length/\q1.length=pre.length)
  (fun c pre W=>c=.ret/\∃S1 X1 er,er≠0/\R=(S1,V,er)/\Way w X Y V W X1 S1/\BoxO W 34 (w.heap.size+4) [.int .i64 ((er:Nat):Int)]/\(I.heap.size∉XY X1 Y/\I.heap.size+1∉XY X1 Y)/\gy1 I.heap.size W) ?hI ?hIx (.inl ⟨rfl,rfl⟩)
  (fun x=>{ tmps:=#[.pointer (some ⟨Y.s,0,none⟩),.slice D dm dd,.int .i64 lev,.slice L lm lc,.slice N nn nc,.pointer (some ⟨w.heap.size,0,none⟩),.pointer (some ⟨w.heap.size+1,0,none⟩),.pointer (some ⟨w.heap.size+1+1,0,none⟩),undef,.pointer (some ⟨w.heap.size+1+1+1,0,none⟩),.pointer (some ⟨w.heap.size+1+1+1+1,0,none⟩),.pointer (some ⟨w.heap.size+1+1+1+1+1,0,none⟩),.pointer (some ⟨J.heap.size,0,none⟩),Ck.val p x,undef,undef,undef,undef,undef,.slice D dm dd,.agg #[.slice D dm dd,.slice none 0 0,.int .i64 0,.int .u64 0,.int .u64 0,.int .u64 0,.int .u64 0],.pointer (some ⟨Y.s,0,none⟩),.pointer (some ⟨Y.s,0,none⟩),.pointer (some ⟨Y.s,4,none⟩),.slice Y.T.a Y.T.n Y.T.c,.slice A2 Y.T.n c2,.func (.func 94) #[] #[.pointer (some ⟨w.heap.size+1,0,none⟩)],.slice A3 k c2,.slice L lm lc,.func (.func 166) #[] #[.pointer (some ⟨J.heap.size+1,0,none⟩),.pointer (some ⟨J.heap.size+1+1,0,none⟩)],Ck.val p x,undef,undef,undef,undef,undef,undef,undef,undef,undef,undef,undef,undef,undef,undef,undef,undef,undef,undef,undef,undef,undef,undef,undef,undef,undef,undef,undef,undef,undef,undef,undef,undef,undef,undef,undef,undef,undef,undef,undef,undef,undef,undef],defers:=[] }) ?assig ?body ?done ?stop
 case hKb=>
  have e2:=i5.out;intro W l2 o' hl;exact⟨aa_ o_,aa_ o_⟩
 case hI=>
  rintro pre W Q (⟨rfl,rfl⟩|⟨r,S1,X1,F,T,q1,h2,h3⟩) hc ⟨v6,r2,v7⟩
  ·exact .inr ⟨r2,S,X,⟨none,0,0⟩,⟨A3,k,c2⟩,[],o5.out _ _ (hc.below l_ (fun g E=>by simp at E;omega)) ⟨v6,v7⟩,by simp,by simp[St.writes],o_,rfl⟩
  ·exact .inr ⟨r2,S1,X1,F,T,q1,h2.loop HH.out hc ⟨v6,v7⟩,h3⟩
 case hIx=>
  rintro c2 pre W Q ⟨h1,S1,X1,er,h2,h3,h4,h5,h6,h7⟩ hc hl;have h8:=h7.box h5;have h9:=i6.out.size;refine⟨h1,S1,X1,er,h2,h3,Way.scr HH.out h4 (fun g E=>?_) hc,h5.chg hc (by simp;omega),h6,hl⟩
  rcases f_.1 E with rfl|E
  ·exact⟨h9,h6.1⟩
  ·rw[a_.1 E]
   exact⟨o_,h6.2⟩
 case assig=>
  intro l2 x W K hK
  gi_wp2
  exact hK
 case body=>
  rintro l2 pre x W6 ⟨m8,r0,v9⟩ hI i7 hx;have F6:∃r S1 X1 F T q1,MgK w X Y V J.heap.size I.heap.size r D dm dd lev N nn nc L lm lc q0 W6 X1 S1 F T (q1.map (·.1.1)) q1 q1/\pre.map (Ck.of l)=(Tb.cut 200 lm l).take pre.length/\St.writes lev (pre.map (Ck.of l)) S []=(S1,q1.map (·.1),0)/\S1.load<=S.load+3 *pre.length/\q1.length=pre.length:=by
   rcases hI with ⟨_,rfl⟩|h
   ·exact absurd (A_.1 m8).1 o_
   ·exact h
  obtain⟨r,S1,X1,F,T,q1,C,l9,e3,l',m0⟩:=F6;obtain⟨⟨b0,b1,b2,b3,bS,bM⟩,_⟩:=C.fix.now;have t5:=b0.c0;have t7:W6.cell? ⟨w.heap.size+1+1,0,none⟩=some (.int .i64 lev):=b2.cell 0;have v':=x.2;have f9:x.len<=200:=by unfold Ck.len;omega
  have hL:L=some p:=HP.out o_;have f':Row W6.heap.size W6 (some p) lm 5 (itc l):=by rw[<-hL];exact(kz C.way.c u2.out l_ (fun j _ a ha=>D9 a ha)).up C.way.c.size
  have w5:=nq4 (m:=200) f' x;have hcut:=cv5 (m:=200) o_ d3.out hx l9;have w7:=pj3 (m:=200) o_ lm l (by rw[d3.out];exact y_ _) x.1 (by rw[d3.out];exact v');have w9:Tb.good (Ck.of l x)=true:=D' _ (by rw[d3.out];exact t_ w7);have i8:=ry2 C.way.at_ (some (p.add (x.1 *200 *5))) x.len x.len (Ck.of l x) o_ l_ w5 (fun y hy=>t3 y (b8_ (aP_ hy))) w9 lev o_;obtain⟨n,hn⟩:=n_ (St.number S1);obtain⟨a,ha⟩:=n_ (St.write S1 (Ck.of l x));have o8:a.1.load<=S1.load+3:=by rw[ha];exact aq1 S1 (Ck.of l x)
  have o9:a.2≠0->R=(a.1,V,a.2):=fun he=>by
   rw[HR.out,ha];rw[ha]at he;refine St.zk3 (pre:=pre.map (Ck.of l)) ?_ e3 he;rw[d3.out];simpa using hcut
  have p0:a.2=0->St.writes lev ((pre++[x]).map (Ck.of l)) S []=(a.1,(q1.map (·.1))++[((lev,n),Tb.rows (Ck.of l x))],0):=fun he=>by
   rw[ha]at he;rw[am_,St.pj1,e3,if_neg s_,ha,hn];simp only[Z_,bO_,St.writes,if_neg (show ¬(St.write S1 (Ck.of l x)).2≠0 from fun h=>h he)]
  rw[<-ha,<-hn]at i8;obtain⟨S8,b8⟩:=a;unfold dj3 at i8;simp only at i8 o8 o9 p0;rw[show Ck.val p x=.slice (some (p.add (x.1 *200 *5))) x.len x.len from rfl];have p6:=H_ i8;have HM:=H_ C;have p7:=H_ o9;have p8:=H_ p0;have x0:=H_ hcut;have m1:=H_ (c_ l' (c_ m0 o8));have K9:=H_ f9;clear i8 o9 p0 ha hn hcut l9 e3 l' m0 o8 C f' w5 w7 w9 b0 b1 b2 b3 bS bM hI m8 v9 i3 hx v' f9 hL
  gi_wp2_with fail
  refine⟨trivial,?_⟩
  with_reducible refine(CallsIn.inRound l2 (callsIn_wide.2 p6.out)).mono ?_
  rintro e w6 ⟨va,vb,vp,X8,rfl,e8,p9,p',q2,q3⟩;have d8:=HM.out.disk e8 p9 p' q2;have j1:=b_ w6 (.cells #[.int .i64 va,.int .i64 vb,.pointer vp] 92);have a9:=d8.below j1;have j2:=BoxO.new w6 #[.int .i64 va,.int .i64 vb,.pointer vp] 92
  by_cases h8:b8=0
  ·subst h8
   obtain⟨f,F8,F9,F',x2⟩:=q3 rfl;have x3:=F9.symm;have x4:=F8.symm;subst x3 F' x4;have x5:=p8.out rfl;have m9:=HM.out.lt;have d8:=d8.tab (x:=(((lev,n),Tb.rows (Ck.of l x)),f)) (x2 _ (fun g E=>by
    rcases k_.1 E with q|q
    ·exact .inr (m9 g q).2
    ·exact .inl q))
   have a9:=d8.below j1;clear q3 x2 p9 p' q2 e8 p6 a9 p7;have a9:=d8.below j1;have q4:=(Below.refl (w6.alloc (.cells #[.int .i64 lev,.int .i64 n,.pointer (some ⟨f,0,none⟩)] 92)).heap.size (w6.alloc (.cells #[.int .i64 lev,.int .i64 n,.pointer (some ⟨f,0,none⟩)] 92))).alloc l_ (.cells #[.int .i64 lev,.int .i64 n] 89);have q5:=BoxO.new (w6.alloc (.cells #[.int .i64 lev,.int .i64 n,.pointer (some ⟨f,0,none⟩)] 92)) #[.int .i64 lev,.int .i64 n] 89;have b6:=a9.below q4;have m':=j2.below q4;have n0:=d8.lt;have x1:(w6.alloc (.cells #[.int .i64 lev,.int .i64 n,.pointer (some ⟨f,0,none⟩)] 92)).cell? ⟨w.heap.size+1+1+1+1+1,1,none⟩=some (.slice F.a F.n F.c):=a9.bx.cell 1;have u0:=j2.c0;have u1:=j2.c1;rw[Q_]at q5;obtain⟨i0,x6,x7,x8,x9⟩:=info_parts nk1;have G1:F.n=q1.length:=by
    have:=b6.oa.1;have e:∀l:List (Int×Int),(dw l).length=l.length *2:=fun l=>by
     induction l with
     |nil=>rfl
     |cons a l ih=>unfold dw at *;rw[S_,d_,ih,q_];simp only[q_,V_];omega
    rw[e,F_]at this;omega
   have x':Hid (F.n<=100000):=H_ (by have:=m1.out.2.1;omega);clear G1;have y7:=b6.way.c.size;have y8:=tz3 q5 rfl;have y9:=b6.oa;have y':=H_ b6;have z0:=H_ m';have z3:=H_ x5;have z4:=H_ n0;clear b6 m' x5 a9 q4 j2 d8 j1 m9 n0 q5 p8
   gi_wp2_with (gi_at_builtin;refine iy ?_)
   refine bz (wj1 rfl (.tmp 42) (.tmp 45) _ rfl w.heap.size 89 i0 _ 2 16 underlying119 x6 x7 x8 x9 rfl o_ y7 (.slice F.a F.n F.c) F.n (dw (q1.map (·.1.1))) rfl y9 _ (some ⟨w6.heap.size+1,0,none⟩) 1 1 [.int .i64 lev,.int .i64 n] rfl y8 (fun v hv=>ek1 [(lev,n)] v (by simpa [dw] using hv)) (F.n+1) (dw (q1.map (·.1.1)++[(lev,n)])) rfl (by simp[dw]) (by have:=x'.out;unfold maxLen;omega) (by have:=x'.out;omega) ?_);intro A4 c4 w8 p1 p2 p3 p4 p5;have b6:=y'.out;have cF:Chg (blk F) ((w6.alloc (.cells #[.int .i64 lev,.int .i64 n,.pointer (some ⟨f,0,none⟩)] 92)).alloc (.cells #[.int .i64 lev,.int .i64 n] 89)) w8:=Chg.qy p2 fun b e=>oq.2 e;have j4:=b6.bx.chg cF (fun C=>ew1 b6.oa b6.bx (by decide) (oq.1 C));have n2:=z0.out.chg cF (fun C=>by have:=(z4.out _ (jv.2 (.inr (.inr (.inr (.inr (.inr (.inl C)))))))).2;omega);have y1:w8.cell? ⟨w.heap.size+1+1+1+1+1,1,none⟩=some (.slice F.a F.n F.c):=j4.cell 1;have z1:w8.frozen? ⟨w.heap.size+1+1+1+1+1,1,none⟩=false:=j4.free 1;have q7:=b6.addF HH.out p1 p2 p5;have c5:Chg [w.heap.size+5] w8 (w8.setCell ⟨w.heap.size+1+1+1+1+1,1,none⟩ (.slice A4 (F.n+1) c4)):=(Chg.refl _ _).setCell _ (.inl s_);have c9:=n2.chg c5 (by have:=HM.out.way.c.size;have:=HM.out.bx.lt;have:=z4.out _ (jv.2 (.inr (.inl rfl)));simp;omega);have v0:=c9.c0;have v1:=c9.c1;have v2:=c9.c2;have tt:(w8.setCell ⟨w.heap.size+1+1+1+1+1,1,none⟩ (.slice A4 (F.n+1) c4)).cell? ⟨J.heap.size,0,none⟩=some (.slice T.a T.n T.c):=q7.bt.cell 0;have z7:=(Below.refl (w8.setCell ⟨w.heap.size+1+1+1+1+1,1,none⟩ (.slice A4 (F.n+1) c4)).heap.size (w8.setCell ⟨w.heap.size+1+1+1+1+1,1,none⟩ (.slice A4 (F.n+1) c4))).alloc l_ (.cells #[.int .i64 lev,.int .i64 n,.pointer (some ⟨f,0,none⟩)] 92);have q8:=BoxO.new (w8.setCell ⟨w.heap.size+1+1+1+1+1,1,none⟩ (.slice A4 (F.n+1) c4)) #[.int .i64 lev,.int .i64 n,.pointer (some ⟨f,0,none⟩)] 92;rw[show (w8.setCell ⟨w.heap.size+1+1+1+1+1,1,none⟩ (.slice A4 (F.n+1) c4)).heap.size=w8.heap.size from by simp]at q8;have O:=q7.below z7;obtain⟨i1,z8,z9,z',A0⟩:=info_parts dq2;have l4:T.n=q0.length+q1.length:=by
    have:=O.ot.1;rw[tq,d_]at this;omega
   have A1:q0.length<=1000:=by
    rw[o6.out];have h1:=L_ (fun x:Tq=>!decide (x.1.1.2∈inn)) Y.q;have h2:Y.q.length=V.tabs.length:=by rw[<-HQ.out,F_]
    omega
   have n3:Hid (T.n<=200000):=H_ (by have:=m1.out.2.1;omega);have n4:=xw3 q8 rfl;have f8:=O.ot;have n5:=O.way.c.size;have n6:=H_ O;clear O l4 A1 z7 q7 n2 c9 c5 cF j4 b6 p1 p2 p3 p4 p5 y' z0 q8 x1 u0 u1 y8 y9 x6 x7 x8 x9 y7
   gi_wp2_with (gi_at_builtin;refine iy ?_)
   refine bz (wj1 rfl (.tmp 48) (.tmp 50) _ rfl w.heap.size 92 i1 _ 3 24 underlying64 z8 z9 z' A0 rfl o_ n5 (.slice T.a T.n T.c) T.n (hcells (q0++q1)) rfl f8 _ (some ⟨w8.heap.size,0,none⟩) 1 1 [.int .i64 lev,.int .i64 n,.pointer (some ⟨f,0,none⟩)] rfl n4 (fun v hv=>xv1 [(((lev,n),Tb.rows (Ck.of l x)),f)] v (by simpa [hcells] using hv)) (T.n+1) (hcells (q0++(q1++[(((lev,n),Tb.rows (Ck.of l x)),f)]))) rfl (by simp[hcells]) (by have:=n3.out;unfold maxLen;omega) (by have:=n3.out;omega) ?_);intro A5 c5 j5 p1 p2 p3 p4 p5;have O:=n6.out;have cT:Chg (blk T) ((w8.setCell ⟨w.heap.size+1+1+1+1+1,1,none⟩ (.slice A4 (F.n+1) c4)).alloc (.cells #[.int .i64 lev,.int .i64 n,.pointer (some ⟨f,0,none⟩)] 92)) j5:=Chg.qy p2 fun b e=>oq.2 e;have e4:=O.bt.chg cT (fun C=>ew1 O.ot O.bt (by decide) (oq.1 C));have g0:=e4.c0;have g1:=e4.free 0;have b':=O.addT (x:=(((lev,n),Tb.rows (Ck.of l x)),f)) HH.out p1 p2 p5;have n7:sz3 I.heap.size (fun W Q=>Q.heap[J.heap.size+1]?=W.heap[J.heap.size+1]?/\Q.heap[J.heap.size+1+1]?=W.heap[J.heap.size+1+1]?)
     (fun pre W=>(pre=[]/\W=I)\/∃r S1 X1 F T q1,MgK w X Y V J.heap.size I.heap.size r D dm dd lev N nn nc L lm lc q0 W X1 S1 F T (q1.map (·.1.1)) q1 q1/\pre.map (Ck.of l)=(Tb.cut 200 lm l).take pre.length/\St.writes lev (pre.map (Ck.of l)) S []=(S1,q1.map (·.1),0)/\S1.load<=S.load+3 *pre.length/\q1.length=pre.length)
     (fun c pre W=>c=.ret/\∃S1 X1 er,er≠0/\R=(S1,V,er)/\Way w X Y V W X1 S1/\BoxO W 34 (w.heap.size+4) [.int .i64 ((er:Nat):Int)]/\(I.heap.size∉XY X1 Y/\I.heap.size+1∉XY X1 Y)/\gy1 I.heap.size W) (pre++[x]) W6 .normal { tmps:=#[],defers:=[] } (j5.setCell ⟨J.heap.size,0,none⟩ (.slice A5 (T.n+1) c5)):=by
    refine⟨⟨b'.la.1.trans HM.out.la.1.symm,b'.la.2.trans HM.out.la.2.symm⟩,⟨?_,?_⟩,.inr ⟨r,S8,X8,⟨A4,F.n+1,c4⟩,⟨A5,T.n+1,c5⟩,q1++[(((lev,n),Tb.rows (Ck.of l x)),f)],?_,x0.out,by rw[z3.out,am_];rfl,by have:=m1.out;rw[d_,ad_];omega,by rw[d_,d_,m1.out.2.1];rfl⟩⟩
    ·exact Eq.trans b'.fix.now.1.2.2.2.2.1 (Eq.symm HM.out.fix.now.1.2.2.2.2.1)
    ·exact Eq.trans b'.fix.now.1.2.2.2.2.2 (Eq.symm HM.out.fix.now.1.2.2.2.2.2)
    ·rw[am_]
     exact b'
   have A6:=H_ n7;clear n7 b' e4 cT O p1 p2 p3 p4 p5 n6 n4 f8 z8 z9 z' A0 n5 y1 z1 v0 v1 v2 tt
   gi_wp2
   exact A6.out
  ·have e1:((b8:Int)==0)=false:=by simp;omega
   have e5:=a9.b4;have s4:(w6.alloc (.cells #[.int .i64 va,.int .i64 vb,.pointer vp] 92)).cell? ⟨w.heap.size+1+1+1+1,0,none⟩=some (.int .i64 0):=e5.cell 0;have f4:(w6.alloc (.cells #[.int .i64 va,.int .i64 vb,.pointer vp] 92)).frozen? ⟨w.heap.size+1+1+1+1,0,none⟩=false:=e5.free 0;have cc:Chg [w.heap.size+4] (w6.alloc (.cells #[.int .i64 va,.int .i64 vb,.pointer vp] 92)) ((w6.alloc (.cells #[.int .i64 va,.int .i64 vb,.pointer vp] 92)).setCell ⟨w.heap.size+1+1+1+1,0,none⟩ (.int .i64 (b8:Int))):=(Chg.refl _ _).setCell _ (.inl s_);have H:=a9.no;have d5:=a9.la;have g8:=d5.at_.lt;have j6:∀g,I.heap.size<=g->g < I.heap.size+2->g∉[w.heap.size+4]:=fun g h1 h2 e6=>by
    have:=a_.1 e6;have:=i6.out.size;have:=l8.out;have:=i5.out;omega
   have e7:yk3 I.heap.size r ((w6.alloc (.cells #[.int .i64 va,.int .i64 vb,.pointer vp] 92)).setCell ⟨w.heap.size+1+1+1+1,0,none⟩ (.int .i64 (b8:Int))):=⟨(cc.block _ o_ (j6 _ o_ o_)).trans d5.1,(cc.block _ g8 (j6 _ o_ o_)).trans d5.2⟩;have n8:nz2 I.heap.size W6 ((w6.alloc (.cells #[.int .i64 va,.int .i64 vb,.pointer vp] 92)).setCell ⟨w.heap.size+1+1+1+1,0,none⟩ (.int .i64 (b8:Int)))/\∃S1 X1 er,er≠0/\R=(S1,V,er)/\Way w X Y V ((w6.alloc (.cells #[.int .i64 va,.int .i64 vb,.pointer vp] 92)).setCell ⟨w.heap.size+1+1+1+1,0,none⟩ (.int .i64 (b8:Int))) X1 S1/\BoxO ((w6.alloc (.cells #[.int .i64 va,.int .i64 vb,.pointer vp] 92)).setCell ⟨w.heap.size+1+1+1+1,0,none⟩ (.int .i64 (b8:Int))) 34 (w.heap.size+4) [.int .i64 ((er:Nat):Int)]/\(I.heap.size∉XY X1 Y/\I.heap.size+1∉XY X1 Y)/\gy1 I.heap.size ((w6.alloc (.cells #[.int .i64 va,.int .i64 vb,.pointer vp] 92)).setCell ⟨w.heap.size+1+1+1+1,0,none⟩ (.int .i64 (b8:Int))):=
    ⟨⟨e7.1.trans HM.out.la.1.symm,e7.2.trans HM.out.la.2.symm⟩,S8,X8,b8,h8,p7.out h8,Way.scr HH.out a9.way (G:=[w.heap.size+4]) (fun g E=>by rw[a_.1 E];exact⟨o_,H _ (jv.2 (.inl rfl))⟩) cc,e5.store 0 (.int .i64 (b8:Int)),⟨H _ (jv.2 s_),H _ (jv.2 s_)⟩,e7.at_⟩
   have HF:=H_ n8;clear n8 e7 j6 g8 d5 H cc e5 j2 a9 j1 d8 q3 p9 p' q2 e8 h8 p6 HM p7 p8 x0 t5 t7
   gi_wp2
   exact⟨HF.out.1,rfl,HF.out.2⟩
 case done=>
  rintro D2 ys W9 hD q' hI hK j7;obtain⟨r,S1,X1,F,T,q1,C,l9,e3,l',m0⟩:=hI.resolve_left (fun h=>by
   rw[h.2,j7]at hK;exact absurd (A_.1 hK).1 o_)
  rw[q']at e3;have d9:=HR.out.trans (St.wx3 (by rw[d3.out];exact e3));rw[show (q1.map (·.1)).map (·.1)=q1.map (·.1.1) from by simp[aK_,b3_]]at d9;obtain⟨tb,r3⟩:=n_ (V.tabs.filter (fun t=>!decide (t.1.2∈inn))++q1.map (·.1));rw[<-r3]at d9;have i7:=C.lt;have f9:=HW.out.2.2;have j8:=i6.out.size;have d':=l8.out;have e2:=i5.out;have A7:ys.length<=lm:=by
   have h1:=congrArg List.length q';rw[F_]at h1;have h2:=Tb.sz1 200 o_ lm l;rw[d3.out]at h2;omega
  obtain⟨⟨b0,b1,b2,b3,bS,bM⟩,_⟩:=C.fix.now;have r4:∀g∈(w.heap.size+4)::I.heap.size::XY X1 Y,g∈XY X1 Y\/w.heap.size<=g:=fun g E=>by
   rcases f_.1 E with q|q
   ·exact .inr o_
   ·rcases f_.1 q with q|q
    ·exact .inr o_
    ·exact .inl q
  have H:∀{g},g∈mgG w.heap.size J.heap.size I.heap.size F T->g∉XY X1 Y:=fun E=>C.no _ E;have A8:∀g,(Value.slice T.a T.n T.c).ownBlock=some g->g∉(w.heap.size+4)::I.heap.size::XY X1 Y:=fun g e E=>by
   rcases f_.1 E with q|q
   ·exact ew1 C.ot C.b4 (by decide) (by rw[e,q])
   ·rcases f_.1 q with q|q
    ·exact(C.la.at_.own C.ot).1 (by rw[e,q])
    ·exact H (jv.2 (.inr (.inr (.inr (.inr (.inr (.inr (oq.2 e)))))))) q
  have A9:(q0++q1).map (·.1)=tb:=by
   rw[r3,am_,o6.out,<-HQ.out,List.filter_map];rfl
  obtain⟨Tc,Tm,_⟩:=mx1 C.ot;have j9:vz ((w.heap.size+4)::I.heap.size::XY X1 Y) W9 fun W=>fy1 W T (q0++q1) tb:=fun Q c=>by
   refine⟨A9,(kz c (Row.own C.ot) l_ (fun j _ a ha=>A8 _ (by rw[ha];rfl))).up c.size,Tc,Tm,jk1 C.ot,fun p hp=>?_⟩
   rcases k_.1 hp with q|q
   ·rw[o6.out]at q
    exact(Way.tabs HH.out C.way r4 Q c).2.2.2.2.2 p (P_.1 q).1
   ·refine(C.fix Q (c.mono fun g E=>.inl ?_)).2 p q
    rcases f_.1 E with z|z
    ·rw[z]
     exact x_ _ (jv.2 (.inl rfl))
    ·rcases f_.1 z with z|z
     ·rw[z]
      exact x_ _ (jv.2 s_)
     ·exact p_ _ z
  have j':vz ((w.heap.size+4)::I.heap.size::XY X1 Y) W9 fun W=>Its 0 W N nn nc next:=E8.out.step C.way.c (fun g E=>by
   rcases r4 g E with z|z
   ·exact C.way.f g z
   ·exact .inr z)
  have g4:vz (XY X1 Y) W9 fun W=>(BoxO W 37 w.heap.size [.pointer (some ⟨Y.s,0,none⟩)]/\BoxO W 30 (w.heap.size+1) [.slice D dm dd]/\BoxO W 34 (w.heap.size+4) [.int .i64 0]/\W.heap[I.heap.size]?=some (.deferred (some [])))/\BoxO W 64 J.heap.size [.slice T.a T.n T.c]/\BoxO W 26 (w.heap.size+3) [.slice N nn nc]:=fun Q c=>by
   have h1:=C.fix Q (c.mono fun g E=>.inl (p_ _ E));exact⟨⟨h1.1.1,h1.1.2.1,C.b4.chg c (H (jv.2 (.inl rfl))),(c.block _ (by have:=C.la.at_.lt;omega) (H (jv.2 s_))).trans C.la.1⟩,C.bt.chg c (H (jv.2 s_)),h1.1.2.2.2.1⟩
  have A':my5 W9 X1 Y V 96 #[.pointer (some ⟨J.heap.size,0,none⟩),.pointer (some ⟨w.heap.size,0,none⟩),.pointer (some ⟨w.heap.size+1+1+1,0,none⟩)] (fun w1 X2 P1 S2 M1 b w'=>SvAt w' X2 S2 { Y with P:=P1,T:=T,q:=q0++q1,A:=⟨N,nn,nc⟩ } (St.mergeD tb next { V with M:=M1,only:=b })/\Chg (XY X2 Y) w1 w'):=by
   intro w1 X2 P1 S2 M1 b e1 r5 B1 L6 G9;have hb:=g4 w1 r5;have L7:Y.s < w.heap.size:=f9 _ (p_ _ (Yw.aj.2 (.inl rfl)));exact kk3 G9 J.heap.size w.heap.size (w.heap.size+1+1+1) T (q0++q1) tb N nn nc next hb.2.1 hb.1.1 hb.2.2 (by show w.heap.size≠Y.s;omega) (by show w.heap.size+1+1+1≠Y.s;omega)
    (j9.step (r5.mono fun g E=>.inl (e_ _ (e_ _ E))) (fun g E=>(B1 g E).imp (fun z=>e_ _ (e_ _ z)) id))
    (j'.step (r5.mono fun g E=>.inl (e_ _ (e_ _ E))) (fun g E=>(B1 g E).imp (fun z=>e_ _ (e_ _ z)) id))
  have B2:F.n<=1000000:=by
   have:=C.oa.1;have e:∀l:List (Int×Int),(dw l).length=l.length *2:=fun l=>by
    induction l with
    |nil=>rfl
    |cons a l ih=>unfold dw at *;rw[S_,d_,ih,q_];simp only[q_,V_];omega
   rw[e,F_]at this;omega
  have n':Row W9.heap.size W9 D dm 1 (uw inn):=(kz C.way.c g'.out l_ (fun j _ a ha=>(o1 a ha).1)).up C.way.c.size;have d2:=bv3 C.way.at_ ⟨inn,q1.map (·.1.1),0,0,0,0,0⟩ D dm dd F.a F.n F.c o_ B2 n' (Row.own C.oa) (fun a ha e6=>by
   have h1:=o1 a ha
   rcases C.way.f _ e6 with z|z
   ·exact h1.1 z
   ·omega) (fun a ha=>H (jv.2 (.inr (.inr (.inr (.inr (.inr (.inl (oq.2 (by rw[ha];rfl))))))))))
   E0 E1 E2 96 _ (St.mergeD tb next) (fun _ _=>rfl) A'
  obtain⟨Tr,r6⟩:=n_ (St.turn S1 V ⟨inn,q1.map (·.1.1),0,0,0,0,0⟩ (St.mergeD tb next));have g7:Tr.1.load<=S1.load:=by rw[r6];exact uy1 _ _ _ _
  rw[<-r6]at d2 d9;unfold Ed.val at d2;simp only[cr_]at d2;have t5:=b0.c0;have y0:W9.cell? ⟨w.heap.size+1+1+1+1+1,0,none⟩=some (.slice D dm dd):=C.bx.cell 0;have y1:W9.cell? ⟨w.heap.size+1+1+1+1+1,1,none⟩=some (.slice F.a F.n F.c):=C.bx.cell 1;have y2:W9.cell? ⟨w.heap.size+1+1+1+1+1,2,none⟩=some (.int .i64 0):=C.bx.cell 2;have y3:W9.cell? ⟨w.heap.size+1+1+1+1+1,3,none⟩=some (.int .u64 0):=C.bx.cell 3;have y4:W9.cell? ⟨w.heap.size+1+1+1+1+1,4,none⟩=some (.int .u64 0):=C.bx.cell 4;have y5:W9.cell? ⟨w.heap.size+1+1+1+1+1,5,none⟩=some (.int .u64 0):=C.bx.cell 5;have y6:W9.cell? ⟨w.heap.size+1+1+1+1+1,6,none⟩=some (.int .u64 0):=C.bx.cell 6;have l5:=H_ d2;have r7:=H_ d9;have HM:=H_ C;have B3:=H_ (c_ j9 (c_ j' g4));have B4:Hid (Tr.1.load<=1000000000000):=H_ o_;have B5:=H_ j7;have r8:Hid (w.heap.size+4∉XY X1 Y/\I.heap.size∉XY X1 Y):=H_ ⟨H (jv.2 (.inl rfl)),H (jv.2 s_)⟩;clear d2 d9 C j9 j' g4 g7 A' n' B2 Tc Tm A9 A8 H r4 b0 b1 b2 b3 bS bM A7 i7 f9 j8 d' e2 r6 l9 e3 l' m0 q' hI hD j7 i3 r3 hK;refine v5 _ _ ?_;refine wpIn_wide.2 ?_;clear v5;go_wp2_with fail
  refine m_ l5 ?_
  rintro e j5 k0;obtain⟨rfl,X2,Y2,hE,B6⟩:e=.returned (.int .i64 (Tr.2.2:Int))/\∃X2 Y2,MgE w X Y I.heap.size D dm dd j5 Tr.1 Tr.2.1 X2 Y2/\(Y2.A=Y.A\/Y2.A=⟨N,nn,nc⟩):=by
   obtain⟨he,w1,X2,P1,S2,M1,b,e1,c1,f1,p1,h1,H0⟩:=k0;have C:=HM.out;obtain⟨j9,j',g4⟩:=B3.out;have i7:=C.lt;have j8:=i6.out.size;have f9:=HW.out.2.2;have m2:Chg ((w.heap.size+4)::I.heap.size::XY X1 Y) W9 w1:=c1.mono fun g E=>.inl (e_ _ (e_ _ E));have m3:∀g∈(w.heap.size+4)::I.heap.size::XY X2 Y,g∈(w.heap.size+4)::I.heap.size::XY X1 Y\/W9.heap.size<=g:=fun g E=>by
    rcases f_.1 E with q|q
    ·exact .inl (by rw[q];exact i_)
    ·rcases f_.1 q with q|q
     ·exact .inl (by rw[q];exact e_ _ i_)
     ·exact(f1 g q).imp (fun q=>e_ _ (e_ _ q)) id
   have B7:=C.way.c.trans c1 C.way.f;have r9:∀g∈XY X2 Y,g∈XY X Y\/w.heap.size<=g:=fun g E=>by
    rcases f1 g E with q|q
    ·exact C.way.f g q
    ·exact .inr (j_ C.way.c.size q)
   have h4:=C.b4.lt;have h5:=C.la.at_.lt;have B8:w.heap.size+4 < I.heap.size:=by have:=i5.out;have:=l8.out;omega
   have H:(w.heap.size+4)∉XY X2 Y/\I.heap.size∉XY X2 Y:=⟨fun e6=>(f1 _ e6).elim r8.out.1 o_,fun e6=>(f1 _ e6).elim r8.out.2 o_⟩;have B9:∀(M:Gs) (hr:Row w1.heap.size w1 P1.a P1.n 2 (dw M.v.files)),∀j,j < (dw M.v.files).length->∀a,P1.a=some a->a.block≠w.heap.size+4/\a.block≠I.heap.size:=fun M hr j hj a ha=>by
    rcases p1 with p1|p1
    ·have B':=HH.out.row.row
     have l1:=hr.len;have l2:=B'.len;rw[p1]at l1 ha;obtain⟨a',e,q1,_⟩:=B'.cell j o_;rw[ha]at e;injection e with e;subst e;omega
    ·have:=p1 a ha
     omega
   rcases H0 with ⟨rfl,z1,z2⟩|⟨⟨k1,k2⟩,z1,z2⟩
   ·rw[z1,z2]
    exact⟨he,X2,{ Y with P:=P1 },⟨e1.trans C.way.d,rfl,h1,B7,r9,H,B8,(HH.out.tabs.step C.way.c (fun g E=>by
     rcases f_.1 E with q|q
     ·exact .inr o_
     ·rcases f_.1 q with q|q
      ·exact .inr o_
      ·exact C.way.f g q)).step m2 m3,(HH.out.st.step C.way.c (fun g E=>by
     rcases f_.1 E with q|q
     ·exact .inr o_
     ·rcases f_.1 q with q|q
      ·exact .inr o_
      ·exact C.way.f g q)).step m2 m3,B9 M1 h1.row.row,(g4.step c1 f1).mono fun _ hq=>hq.1⟩,.inl rfl⟩
   ·rw[z1,z2]
    have C0:Chg ((w.heap.size+4)::I.heap.size::XY X2 Y) w1 j5:=k2.mono fun g E=>.inl (e_ _ (e_ _ E));exact⟨he,X2,{ Y with P:=P1,T:=T,q:=q0++q1,A:=⟨N,nn,nc⟩ },⟨e1.trans C.way.d,rfl,k1,B7.trans k2 r9,r9,H,B8,(j9.step m2 m3).step C0 (fun g E=>.inl E),(j'.step m2 m3).step C0 (fun g E=>.inl E),B9 M1 h1.row.row,((g4.step c1 f1).step k2 (fun g E=>.inl E)).mono fun _ hq=>hq.1⟩,.inr rfl⟩
  clear k0 l5 B3 HM r8 t5 y0 y1 y2 y3 y4 y5 y6;have HE:=H_ hE;have H4:=H_ B6;have i0:=hE.bx.now.2.1.c0;obtain⟨er,r'⟩:=n_ Tr.2.2;rw[<-r'];have k3:=H_ r';clear hE r' B6;go_wp2
  go_loopw [58] (fun i wr=>∃j:Nat,j<=dm/\i=.int .i64 (j:Int)/\MgD w X Y I.heap.size D dm dd inn Tr Y2 j wr) (fun i _=>dm - (intOf i).toNat)
  case atStart=>exact⟨0,w_ _,rfl,Tr.1,X2,by simp[St.drops],HE.out⟩
  case round=>
   obtain⟨j,hj,rfl,S3,X3,d0,Z⟩:=hrel;replace d0:=H_ d0;replace Z:=H_ Z;clear i0 HE
   by_cases i7:j < dm
   ·have f':=(kz Z.out.c g'.out l_ (fun j _ a ha=>(o1 a ha).1)).up Z.out.c.size
    obtain⟨a,hl,s1,C1,hc⟩:=f'.int_ i7;have M5:=D6 _ (u_ hl);have s2:inn.take (j+1)=inn.take j++[inn[j]]:=r_ hl;generalize inn[j]=nj at *;have H6:(j:Int) < (dm:Int):=o_
    by_cases he:er=0
    ·have e1:((er:Int)==0)=true:=by simp[he]
     have h0:Tr.2.2=0:=k3.out.symm.trans he;have k4:(S3.remove (Mn.name Mn.kTab nj)).1=if Tr.2.2=0 then St.drops (inn.take (j+1)) Tr.1 else Tr.1:=by
      rw[d0.out,if_pos h0,if_pos h0,s2,St.gk3];rfl
     have C2:S3.load<=1000000001000:=by
      rw[d0.out,if_pos h0];have h1:=St.xz1 (inn.take j) Tr.1;have h2:=B4.out;rw[v_]at h1;omega
     have C3:∀Q,(∃S4 X4,MgE w X Y I.heap.size D dm dd Q S4 Tr.2.1 X4 Y2)->Q.cell? ⟨w.heap.size,0,none⟩=some (.pointer (some ⟨Y.s,0,none⟩))/\Q.cell? ⟨Y.s,0,none⟩=some (.pointer (some ⟨X.d,0,none⟩)):=fun Q ⟨S4,X4,h4⟩=>by
      have q:=h4.at_.box.cell 0;rw[h4.s,h4.d]at q;exact⟨h4.bx.now.1.cell 0,q⟩
     have m5:=fun Q (hb:Below wr.heap.size wr Q)=>name_any (str Mn.kTab) (by rw[ny];decide) nj o_ Q (Z.out.below hb).at_.dm.env;simp only[oz]at m5;rw[show str Mn.kTab=({ data:=#[116,97,98] }:ByteArray) from rfl]at m5;have k5:∀Q,Below wr.heap.size wr Q->Calls prog 66 #[.pointer (some ⟨X.d,0,none⟩),.string (str (Mn.name Mn.kTab nj))] Q fun e w'=>(∃u:Nat,e=.returned (.int .i64 (u:Int)))/\∃X4,MgE w X Y I.heap.size D dm dd w' (S3.remove (Mn.name Mn.kTab nj)).1 Tr.2.1 X4 Y2:=fun Q hb=>by
      have h4:=Z.out.below hb;have k5:=(Acc.start (F:=[]) h4.at_.dm).remove (str (Mn.name Mn.kTab nj)) (by rw[ny];have:=ik1 Mn.kTab nj;unfold maxLen;omega) o_;rw[oz,h4.d]at k5;exact k5.mono fun e w' ⟨he,Xq,hq⟩=>⟨⟨_,he⟩,h4.disk hq.updM⟩
     have M6:wr.cell? (a.add j)=some (.int .i64 nj):=hc;have i1:=Z.out.bx.now.2.1.cell 0;have s':=H_ C3;have C4:=H_ m5;have C5:=H_ k5;have C6:=H_ k4;have M7:=H_ s1;clear C3 m5 k5 k4 f' hc s2 C2 hl C1 i1 d0 he h0;subst s1;go_wp2_with fail;refine av6 ?_;refine wp_region_held_drew (S:=fun w'=>∃S4 X4,MgE w X Y I.heap.size (some a) dm dd w' S4 Tr.2.1 X4 Y2) rfl ⟨S3,X3,Z.out.below (ak b0_)⟩ (fun a7=>?_);refine w_v 0 a7 ?_ (k:=kz46);go_simp;refine w_v 1 a7 ?_ (k:=kz46);go_simp;refine w_v 2 a7 ?_ (k:=kz46);go_simp;refine w_v 3 a7 ?_ (k:=kz46);go_simp;refine w_v 4 a7 ?_ (k:=kz46);go_simp;refine w_r 5 fun K hK=>?_;go_simp
     with_reducible refine(C4.out _ (ak b0_)).mono ?_
     rintro e w2 ⟨rfl,d4⟩;have f6:=H_ (az (ak (Below.refl wr.heap.size wr)) d4);go_simp;refine hK.out _ _ ⟨S3,X3,Z.out.below f6.out⟩ ?_;clear a7 hK K;intro a7;go_simp;refine w_r 6 fun K hK=>?_;go_simp
     with_reducible refine(C5.out _ f6.out).mono ?_
     rintro e w4 ⟨⟨u,rfl⟩,X4,h4⟩;replace h4:=H_ h4;go_simp;refine hK.out _ _ ⟨_,X4,h4.out⟩ ?_;clear a7 hK K;intro a7;go_simp;refine w_d ?_;have HF:Hid (MgD w X Y I.heap.size (some a) dm dd inn Tr Y2 (j+1) w4):=H_ ⟨_,X4,C6.out,h4.out⟩;clear s' C4 C5 a7 h4 C6 f6;simp only[NoP];go_wp2;go_roundw
     case rel=>exact⟨j+1,o_,by go_num,HF.out⟩
     case measure=>simp[intOf];omega
    ·have e1:((er:Int)==0)=false:=by simp;omega
     have k4:S3=if Tr.2.2=0 then St.drops (inn.take (j+1)) Tr.1 else Tr.1:=by
      rw[d0.out,if_neg (by rw[<-k3.out];exact he),if_neg (by rw[<-k3.out];exact he)]
     have HF:Hid (MgD w X Y I.heap.size D dm dd inn Tr Y2 (j+1) wr):=H_ ⟨_,X3,k4,Z.out⟩;clear k4 f' s2 hl C1 d0 he Z;subst s1;go_wp2;go_roundw
     case rel=>exact⟨j+1,o_,by go_num,HF.out⟩
     case measure=>simp[intOf];omega
   ·obtain rfl:j=dm:=o_
    have H6:((j:Int) < (j:Int))=False:=eq_false o_;have e7:inn.take j=inn:=g_ (by
     have:=g'.out.len;unfold uw at this;rw[F_]at this;omega)
    have hp:=MgE.post HH.out Z.out H4.out (.int .i64 (er:Int));have hb:=Z.out.bx.now;have s4:wr.cell? ⟨w.heap.size+1+1+1+1,0,none⟩=some (.int .i64 0):=hb.2.2.1.cell 0;have f4:wr.frozen? ⟨w.heap.size+1+1+1+1,0,none⟩=false:=hb.2.2.1.free 0;have C7:(wr.setCell ⟨w.heap.size+1+1+1+1,0,none⟩ (.int .i64 (er:Int))).heap[D2]?=some (.deferred (some [])):=by
     rw[B5.out];exact(((Chg.refl [w.heap.size+4] wr).setCell (p:=⟨w.heap.size+1+1+1+1,0,none⟩) (.int .i64 (er:Int)) (.inl s_)).block _ (A_.1 hb.2.2.2).1 (fun C=>by have:=a_.1 C;have:=Z.out.lb;omega)).trans hb.2.2.2
    have C8:R=(S3,Tr.2.1,er):=by
     rw[r7.out,d0.out,e7,<-k3.out];split
     ·rename_i h0;rw[h0]
     ·rw[k3.out]
    have d1:=hp.2;rw[<-B5.out]at d1 hp;have H7:=H_ hp.1;have H8:=H_ C8;have H9:=H_ C7;clear hp hb C8 C7 e7 d0 Z;go_wp2;refine⟨by simp,.inl ⟨_,_,rfl,run_takeDeferred H9.out,?_⟩⟩;refine⟨.int .i64 (er:Int),by simp[results,go_sem,d1],?_⟩;rw[H8.out];exact⟨rfl,H7.out⟩
 case stop=>
  rintro D2 c2 pre W9 hD _ ⟨rfl,S1,X1,er,h0,d9,hw,e5,H,d5⟩ hK j7;have C9:Chg [D2] W9 (W9.putObj D2 (.deferred none)):=⟨rfl,rfl,rfl,by simp,fun y _ hy=>aa_ (fun e=>hy (by simp[e]))⟩;have j8:=i6.out.size;have e2:=i5.out;have d':=l8.out;have k6:=Way.scr HH.out hw (G:=[D2]) (fun g E=>by rw[a_.1 E,j7];exact⟨j8,H.1⟩) C9;have d1:(W9.putObj D2 (.deferred none)).cell? ⟨w.heap.size+1+1+1+1,0,none⟩=some (.int .i64 (er:Int)):=(aH_ (aa_ (show w.heap.size+4≠D2 by omega))).trans (e5.cell 0);have C':Hid (xk3 X Y w _ S1 V ⟨N,nn,nc⟩):=H_ ⟨X1,Y,k6.d,rfl,k6.at_,k6.c,k6.f,.inl rfl⟩;have r7:=H_ d9;have HK:=H_ hK;clear k6 C9 d9 hK hw e5 H d5 h0 j8 e2 d'
  gi_wp2
  refine⟨by simp,.inl ⟨_,_,rfl,run_takeDeferred HK.out,?_⟩⟩;refine⟨.int .i64 (er:Int),by simp[results,go_sem,d1],?_⟩;rw[r7.out];exact⟨rfl,C'.out⟩
theorem aq4 (h:SvAt w X S Y V) (D:Option Addr) (dm dd:Nat) (inn:List Int) (lev:Int) (L:Option Addr) (lm lc:Nat) (l:List It) (N:Option Addr) (nn nc:Nat) (next:List It)
  (E:dm<=1000) (H:Row w.heap.size w D dm 1 (uw inn)) (I:∀a,D=some a->a.block∉XY X Y/\a.block < w.heap.size) (J:∀n∈inn,0<=n/\n<=2147483648)
  (O:lm<=100000) (Q:lm<=lc) (U:Row w.heap.size w L lm 5 (itc l)) (Z:∀a,L=some a->a.block∉XY X Y) (C:∀x∈l,x.fit) (a0:∀r∈Tb.cut 200 l.length l,Tb.good r=true)
  (a1:vz (XY X Y) w fun w=>Its 0 w N nn nc next) (a2:V.M.v.files.length<=40) (a4:V.tabs.length<=1000) (a5:V.M.count<=1000000000) (a6:V.M.name.length<=1000) (a7:S.load<=100000000000):
  Calls prog 34 #[.pointer (some ⟨Y.s,0,none⟩),.slice D dm dd,.int .i64 lev,.slice L lm lc,.slice N nn nc] w (gx1 X Y w (St.merge S V inn lev l next)):=
 (jz2 h D dm dd inn lev L lm lc l N nn nc next E H I J O Q U Z C a0 a1 a2 a4 a5 a6 a7).mono fun _ _ ⟨a,X1,Y1,b,c,d,e,f,_⟩=>⟨a,X1,Y1,b,c,d,e,f⟩
end
section
variable {w w1 w2:World} {X X1 X2:Dw} {S S1 S2:Sd} {Y Y1 Y2:Yw} {V V1 V2:Sv}
theorem Mg.uj4:∀(f:Nat) (ls:List (List It)) (out:List It),(Mg.run f ls out).length<=out.length+f
 |0,_,out=>y_ _
 |f+1,ls,out=>by
  unfold Mg.run
  cases Mg.sel ls ls.length with
  |none=>exact aw_ _ _
  |some j=>
   simp only
   cases ls.getD j [] with
   |nil=>exact aw_ _ _
   |cons x r=>
    have h1:=Mg.uj4 f (ls.set j r) (Mg.put out x);have h2:=Mg.jq out x;exact j_ h1 o_
theorem Mg.vx1 (ls:List (List It)):(Mg.rows ls).length<=Mg.tot ls:=by
 have:=Mg.uj4 (Mg.tot ls) ls [];simpa [Mg.rows] using this
def St.pl (V:Sv) (v:Nat):List It:=yj (clean (Mg.rows (V.tabs.map fun t=>t.2.flatten))) v
structure tk4 (V:Sv) (v:Nat):Prop where
 st:V.st.length<=2000
 fl:V.M.v.files.length<=40
 ct:V.M.count<=1000000000
 nm:V.M.name.length<=1000
 tl:V.tabs.length<=1000
 num:∀t∈V.tabs,0<=t.1.2/\t.1.2<=2147483648
 big:∀t∈V.tabs,t.2.length<=1000000/\t.2.flatten.length<=1000000
 tot:Mg.tot (V.tabs.map fun t=>t.2.flatten)<=100000
 len:(St.pl V v).length<=100000
 fit:∀x∈St.pl V v,x.fit
 good:∀r∈Tb.cut 200 (St.pl V v).length (St.pl V v),Tb.good r=true
theorem kz12 {P S a oi v} (h:Hv P S a oi v:=by intro w C;(have i9:=C);go_simp;try (with_reducible rfl)):Hv P S a oi v:=h
theorem oy3 (h:SvAt w X S Y V) (v:Nat) (i':Tb.good (St.live V)=true) (h7:∀x∈V.mem,x.fit) (j0:V.mem.length<=400000) (j1:V.st.length<=2000) (j2:V.M.v.files.length<=40) (h8:1<=V.M.v.log/\V.M.v.log<=1073741824) (j3:V.M.count<=1000000000) (j4:V.M.name.length<=1000) (l7:S.load<=50000000000)
  (d9:(St.flush S V).2.2=0->tk4 (St.flush S V).2.1 v/\(St.flush S V).1.load<=100000000000):
  Calls prog 19 #[.pointer (some ⟨Y.s,0,none⟩),.int .u64 (v:Int)] w (gx1 X Y w (St.ey1 S V v)):=by
 have b8:=ww1 h i' h7 j0 j1 j2 h8 j3 j4 o_;obtain⟨R,J⟩:=n_ (St.ey1 S V v);rw[<-J];unfold St.ey1 at J;obtain⟨a,ha⟩:=n_ (St.flush S V);rw[<-ha]at b8 J d9;obtain⟨S1,V1,er⟩:=a;unfold gx1 at b8;simp only at b8 J d9;have h9:=H_ b8;have HR:=H_ J;have h':=H_ d9;clear b8 J d9 ha h;go_enter func19,ntmps19;go_wp2_with fail
 refine m_ h9 ?_
 rintro e w1 ⟨rfl,X1,Y1,e0,f6,h1,c1,f1⟩
 by_cases he:er=0
 ·subst he
  have J:=HR.out;rw[if_neg s_]at J;obtain⟨O,Z⟩:=h'.out rfl;have c5:=h1.box.cell 5;rw[f6]at c5;simp only[Yw.cells,gE0,gE1]at c5;have f7:=h1.alen;have i1:=ck4 Y1.A.a Y1.A.n Y1.A.c V1.st v w1 (by rw[f7];have:=O.st;omega) h1.st.now.row;have f8:=H_ i1;have H1:=H_ h1;have HC:=H_ (c_ e0 (c_ f6 (c_ c1 f1)));have HM:=H_ (c_ O Z);have f9:=H_ J;have e3:=H_ f7;clear i1 h1 e0 c1 f1 O Z J f7 h9 h' HR;go_wp2_with fail
  refine m_ f8 ?_
  rintro e w2 ⟨A6,k6,rfl,b9,a4,b5⟩;have h2:=H1.out.below b5;have g0:=h2.box.cell 5;rw[HC.out.2.1]at g0;simp only[Yw.cells,gE0,gE1]at g0
  by_cases hl:k6=Y1.A.n
  ·have e2:((k6:Int)==(Y1.A.n:Int))=true:=by simp[hl]
   have J:=f9.out;rw[if_pos (by rw[<-b9,hl,e3.out])]at J;have HZ:Hid (gx1 X Y w R (.returned (.int .i64 0)) w2):=H_ (by
    rw[J];exact⟨rfl,aw1.trans HC.out.1 HC.out.2.1 HC.out.2.2.1 HC.out.2.2.2 (aw1.same H1.out b5)⟩)
   clear J hl a4 b9 b5 h2 f8 H1 HC HM f9 e3;go_wp2;go_ret;exact HZ.out
  ·have e2:((k6:Int)==(Y1.A.n:Int))=false:=by simp;omega
   have J:=f9.out;rw[if_neg (by rw[<-b9,<-e3.out];exact hl)]at J;obtain⟨O,Z⟩:=HM.out;have e4:=h2.lt;obtain⟨hq,hrow,j9,j',k0,i3⟩:=h2.tabs.now;have g1:=h2.tlen;have E:Below w2.heap.size w2 w2.drew:=ak b0_;have g2:∀W',Below w2.heap.size w2 W'->W'.cell? ⟨Y.s,4,none⟩=some (.slice Y1.T.a Y1.T.n Y1.T.c):=fun W' hb=>by
    have q:=(h2.below hb).box.cell 4;rw[HC.out.2.1]at q;exact q
   have e5:=HC.out.2.1;have b':=fun W' (hb:Below w2.heap.size w2 W')=>ox2 Y1.s Y1.T.n Y1.T.c Y1.T.a Y1.q W' (by rw[e5];exact g2 W' hb) ((hrow.below hb).up hb.size) (by rw[g1];have:=O.tl;omega);rw[e5]at b';have a5:=fun W' (hb:Below w2.heap.size w2 W')=>gq2 Y1.T.a Y1.T.n Y1.T.c Y1.q W' ((hrow.below hb).up hb.size) (fun p hp=>(i3 p hp).below hb) (by rw[g1];have:=O.tl;omega) (fun p hp=>O.big p.1 (by rw[<-hq];exact List.mem_map_of_mem hp));obtain⟨ls,c9⟩:=n_ (V1.tabs.map fun t=>t.2.flatten);have e9:(Y1.q.map fun p=>p.1.2.flatten)=ls:=by rw[c9,<-hq,aK_];rfl
   have c':St.pl V1 v=yj (clean (Mg.rows ls)) v:=by rw[c9];rfl
   rw[e9]at a5;have d0:=O.tot;rw[<-c9]at d0 J;have i4:∀W' A3 k3 c3 A7 k7 c7,Below w2.heap.size w2 W'->k3=Y1.q.length->W'.ownsRow w2.heap.size 3 1 (.slice A3 k3 c3) k3 (Y1.q.map fun p=>.int .i64 p.1.1.2)->k7=(yj (clean (Mg.rows ls)) v).length->W'.ownsRow w2.heap.size 49 5 (.slice A7 k7 c7) k7 (itc (yj (clean (Mg.rows ls)) v))->
     Calls prog 34 #[.pointer (some ⟨Y.s,0,none⟩),.slice A3 k3 c3,.int .i64 3,.slice A7 k7 k7,.slice A6 k6 k6] W' (gx1 X Y w R):=by
    intro W' A3 k3 c3 A7 k7 c7 hb a0 I Q a1;have h5:=h2.below hb;rw[show (Y1.q.map fun p=>Value.int .i64 p.1.1.2)=uw (V1.tabs.map fun t=>t.1.2) from by rw[<-hq];simp[uw,b3_]]at I;have k2:=H1.out.lt;have l8:Y1.q.length=V1.tabs.length:=by rw[<-hq,F_]
    have i5:=aq4 h5 A3 k3 c3 (V1.tabs.map fun t=>t.1.2) 3 A7 k7 k7 (yj (clean (Mg.rows ls)) v) A6 k6 k6 (yj V1.st v) (by have:=O.tl;omega) (Row.own I) (fun a ha=>by
     have q1:=(mx1 I).2.2 a ha;exact⟨fun d1=>by have:=e4 _ d1;omega,(I.lt a.block (by rw[ha];rfl)).2⟩) (fun n hn=>by
     obtain⟨t,ht,rfl⟩:=W_.1 hn;exact O.num t ht) (by rw[Q,<-c'];exact O.len) l_ (Row.own a1) (fun a ha d1=>by
     have q1:=(mx1 a1).2.2 a ha;have:=e4 _ d1;omega) (by rw[<-c'];exact O.fit) (by rw[<-c'];exact O.good) (fun m0 c=>⟨(kz c ((a4.row.below hb).up hb.size) l_ (fun j _ a ha d1=>by
      have q1:=a4.low a ha;have:=k2 _ d1;omega)).up c.size,a4.nc,a4.cm,fun _ _=>w_ _⟩) O.fl O.tl O.ct O.nm Z
    rw[e5]at i5;refine i5.mono ?_;rintro e w' ⟨he,hu⟩;rw[J];exact⟨he,aw1.trans HC.out.1 HC.out.2.1 (HC.out.2.2.1.trans (Chg.of_below (az b5 hb) []) (fun g hg=>by cases hg)) HC.out.2.2.2 hu⟩
   have f5:ls.length<=1000:=by rw[c9,F_];exact O.tl
   have e6:=H_ i4;have i6:=H_ f5;have b1:=H_ b';have b2:=H_ a5;have e7:=H_ g2;have H2:=H_ (c_ h2 (c_ e4 hq));have b3:=H_ d0;have m3:=H_ c';have m4:=H_ J;have m5:=H_ (c_ a4 (c_ b9 b5));clear i4 f5 b' a5 g2 h2 e4 hq d0 c' J a4 b9 b5 hrow j9 j' k0 i3 g1 c9 e9 O Z f8 e3 hl e5;go_wp2_with fail;clear e2 g0;refine wp_region_held_drew (S:=fun _=>True) rfl trivial (fun C=>?_);refine w_v 0 C ?_ (k:=kz12);go_simp;refine w_v 1 C ?_ (k:=kz12);go_simp;refine w_v 3 C ?_ (k:=kz12);go_simp;refine w_v 4 C ?_ (k:=kz12);go_simp;refine w_v 5 C ?_ (k:=kz12);go_simp;refine w_v 9 C ?_ (k:=kz12);go_simp;refine w_v 11 C ?_ (k:=kz12);go_simp;refine wpAnyH_ready (rs:=[2,6]) (by kernel_rfl) s_ ?_;refine AllReadyH.cons rfl (fun K H=>?_) (AllReadyH.cons rfl (fun K H=>?_) AllReadyH.nil)
   ·go_simp
    with_reducible refine(b1.out _ E).mono ?_
    rintro e w3 ⟨A3,k3,c3,rfl,a0,I,g4⟩;have E:=az E g4;replace I:Hid (w3.ownsRow w2.heap.size 3 1 (.slice A3 k3 c3) k3 (Y1.q.map fun p=>.int .i64 p.1.1.2)):=H_ I;replace a0:=H_ a0;go_simp;refine H.out _ _ trivial ?_;clear C H K;intro C;go_simp;refine w_r 6 fun K H=>?_
    ·have q4:=e7.out _ E
     go_simp;refine H.out _ _ trivial ?_;clear C H K;intro C;go_simp;refine w_r 7 fun K H=>?_;go_simp
     with_reducible refine(b2.out _ E).mono ?_
     rintro e w4 ⟨A4,k4,c4,vs,rfl,a6,a7,d2,d3⟩;have E:=az E d3;have g5:=H_ (own_below I.out d3);replace a6:=H_ a6;have d4:=H_ (c_ (d2.rows a7) (jk1 a7));clear a7 d2;go_simp;refine H.out _ _ trivial ?_;clear C H K;intro C;go_simp;refine w_r 8 fun K H=>?_;go_simp
     with_reducible refine(kx2 A4 k4 c4 ls _ (by rw[a6.out];have:=i6.out;omega) (by have:=b3.out;omega) d4.out.2 d4.out.1).mono ?_
     rintro e w5 ⟨A5,k5,g6,rfl,a8,a9,d5⟩;have E:=az E d5;have g7:=H_ (own_below g5.out d5);replace a8:=H_ a8;replace a9:=H_ a9;go_simp;refine H.out _ _ trivial ?_;clear C H K;intro C;go_simp;refine w_r 10 fun K H=>?_;go_simp
     with_reducible refine(cy2 A5 k5 g6 (Mg.rows ls) v _ (by rw[a8.out];exact j_ (Mg.vx1 ls) (by have:=b3.out;omega)) a9.out.row).mono ?_
     rintro e w6 ⟨A7,k7,c7,rfl,Q,a1,g8,g9,d6⟩;have d7:=H_ (own_base a1 E.size);have E:=az E d6;have g':=H_ (own_below g7.out d6);replace Q:=H_ Q;clear g8 g9 a1;go_simp;refine H.out _ _ trivial ?_;clear C H K;intro C;go_simp;refine w_r 12 fun K H=>?_;go_simp
     with_reducible refine(e6.out w6 A3 k3 c3 A7 k7 c7 E a0.out g'.out Q.out d7.out).mono ?_
     rintro e w7 U;have h0:=U.1;subst h0;replace U:=H_ U;go_simp;refine H.out _ _ trivial ?_;clear C H K;intro C;go_simp;refine w_v 13 C ?_ (k:=kz12);go_simp;refine w_d ?_
     (clear e6 b1 b2 e7 HM;go_wp2;go_ret;exact U.out)
   ·have q4:=e7.out _ E
    go_simp;refine H.out _ _ trivial ?_;clear C H K;intro C;go_simp;refine w_r 2 fun K H=>?_
    ·go_simp
     with_reducible refine(b1.out _ E).mono ?_
     rintro e w3 ⟨A3,k3,c3,rfl,a0,I,g4⟩;have E:=az E g4;replace I:Hid (w3.ownsRow w2.heap.size 3 1 (.slice A3 k3 c3) k3 (Y1.q.map fun p=>.int .i64 p.1.1.2)):=H_ I;replace a0:=H_ a0;go_simp;refine H.out _ _ trivial ?_;clear C H K;intro C;go_simp;refine w_r 7 fun K H=>?_;go_simp
     with_reducible refine(b2.out _ E).mono ?_
     rintro e w4 ⟨A4,k4,c4,vs,rfl,a6,a7,d2,d3⟩;have E:=az E d3;have g5:=H_ (own_below I.out d3);replace a6:=H_ a6;have d4:=H_ (c_ (d2.rows a7) (jk1 a7));clear a7 d2;go_simp;refine H.out _ _ trivial ?_;clear C H K;intro C;go_simp;refine w_r 8 fun K H=>?_;go_simp
     with_reducible refine(kx2 A4 k4 c4 ls _ (by rw[a6.out];have:=i6.out;omega) (by have:=b3.out;omega) d4.out.2 d4.out.1).mono ?_
     rintro e w5 ⟨A5,k5,g6,rfl,a8,a9,d5⟩;have E:=az E d5;have g7:=H_ (own_below g5.out d5);replace a8:=H_ a8;replace a9:=H_ a9;go_simp;refine H.out _ _ trivial ?_;clear C H K;intro C;go_simp;refine w_r 10 fun K H=>?_;go_simp
     with_reducible refine(cy2 A5 k5 g6 (Mg.rows ls) v _ (by rw[a8.out];exact j_ (Mg.vx1 ls) (by have:=b3.out;omega)) a9.out.row).mono ?_
     rintro e w6 ⟨A7,k7,c7,rfl,Q,a1,g8,g9,d6⟩;have d7:=H_ (own_base a1 E.size);have E:=az E d6;have g':=H_ (own_below g7.out d6);replace Q:=H_ Q;clear g8 g9 a1;go_simp;refine H.out _ _ trivial ?_;clear C H K;intro C;go_simp;refine w_r 12 fun K H=>?_;go_simp
     with_reducible refine(e6.out w6 A3 k3 c3 A7 k7 c7 E a0.out g'.out Q.out d7.out).mono ?_
     rintro e w7 U;have h0:=U.1;subst h0;replace U:=H_ U;go_simp;refine H.out _ _ trivial ?_;clear C H K;intro C;go_simp;refine w_v 13 C ?_ (k:=kz12);go_simp;refine w_d ?_
     (clear e6 b1 b2 e7 HM;go_wp2;go_ret;exact U.out)
 ·have e1:((er:Int)==0)=false:=by simp;omega
  have J:=HR.out;rw[if_pos he]at J;have HZ:Hid (gx1 X Y w R (.returned (.int .i64 (er:Int))) w1):=H_ (by rw[J];exact⟨rfl,X1,Y1,e0,f6,h1,c1,f1⟩);clear J he;go_wp2;go_ret;exact HZ.out
end
end Go.Proofs.YtkdbagdiplpcfaaGreatDoor
