/- Some of the texts. No conditions. -/
import Derived.Test.YtkdbagdiplpcfaaGreatDoorBunAU

set_option linter.unusedSimpArgs false
set_option linter.unusedVariables false
set_option maxRecDepth 100000
set_option maxHeartbeats 16000000
namespace Go.Proofs.YtkdbagdiplpcfaaGreatDoor
open Go.Proofs.Tryz Go Go.RowKit Go.Lib Go.Shelf
section
variable {w w1 w2:World} {X X1 X2:Dw} {S S1 S2:Sd} {Y Y1 Y2:Yw} {V V1 V2:Sv}
theorem sq3 (h:SvAt w X S Y V) (A:Option Addr) (n c:Nat) (l:List It) (U:vz (XY X Y) w fun w=>Its 0 w A n c l):
  Calls prog 54 #[.pointer (some ⟨Y.s,0,none⟩),.slice A n c] w fun e w'=>e=.returned (.tuple #[])/\SvAt w' X S { Y with A:=⟨A,n,c⟩ } { V with st:=l }/\Chg (XY X Y) w w':=by
 have c5:=h.box.cell 5;have f5:=h.box.free 5;have C:=h.box.store 5 (.slice A n c);have c6:=C.cell 6;have f6:=C.free 6;have J:=C.store 6 (.int .i64 (n:Int));simp only[Yw.cells,gE0,gE1,List.set]at c5 c6;have O:=H_ (fq2 Y.s 6 _ (n:Int) _ c6 f6);have I:Chg [Y.s] w ((w.setCell ⟨Y.s,5,none⟩ (.slice A n c)).setCell ⟨Y.s,6,none⟩ (.int .i64 (n:Int))):=((Chg.refl _ _).setCell _ (.inl s_)).setCell _ (.inl s_);have E:Chg (XY X Y) w ((w.setCell ⟨Y.s,5,none⟩ (.slice A n c)).setCell ⟨Y.s,6,none⟩ (.int .i64 (n:Int))):=I.mono fun g Q=>.inl (by
  rw[a_.1 Q];exact p_ _ (Yw.aj.2 (.inl rfl)))
 have H:=h.sbox (Y1:={ Y with A:=⟨A,n,c⟩ }) (V1:={ V with st:=l }) I J rfl rfl (U.step E (fun g Q=>.inl Q));have Z:=H_ H;clear H I E J C c6 f6 U h;go_enter func54,ntmps54;go_wp2_with fail;refine O.out.mono ?_;rintro e w1 ⟨rfl,rfl⟩;go_wp2;exact bodyPost_end (v:=.tuple #[]) (by simp[results,go_sem]) rfl ⟨rfl,Z.out.1,Z.out.2⟩
theorem zq4 (A:Option Addr) (n c:Nat) (l:List It) (w:World) (Z:n<=1000000) (O:Row w.heap.size w A n 5 (itc l)):
  Calls prog 103 #[.slice A n c] w fun e w'=>∃A' C,e=.returned (.slice A' n C)/\w'.ownsRow w.heap.size 49 5 (.slice A' n C) n (itc l)/\Below w.heap.size w w':=by
 obtain⟨Q,E,H,I,J⟩:=info_parts qw;have U:=H_ O;clear O;go_enter func103,ntmps103;go_wp2_with (at_builtin;refine iy ?_);refine bz (vw rfl _ (.tmp 3) _ rfl w.heap.size 49 Q _ 5 40 underlying26 E H I J rfl o_ w b0_ l_ rfl w.heap.size A n c (itc l) rfl U.out (uj l) (by unfold maxLen;omega) o_ ?_);intro A' C w' h1 h2 h3 h4 h5;go_wp2;go_ret;exact⟨_,_,rfl,h1,h2⟩
theorem mv2 (h:SvAt w X S Y V) (H:V.st.length<=1000000):
  Calls prog 39 #[.pointer (some ⟨Y.s,0,none⟩)] w fun e w'=>∃A' C,e=.returned (.slice A' Y.A.n C)/\w'.ownsRow w.heap.size 49 5 (.slice A' Y.A.n C) Y.A.n (itc V.st)/\Below w.heap.size w w':=by
 have c5:=h.box.cell 5;simp only[Yw.cells,gE0,gE1]at c5;have E:=H_ (zq4 Y.A.a Y.A.n Y.A.c V.st w (by rw[h.alen];omega) h.st.now.row);clear h;go_enter func39,ntmps39;go_wp2_with fail;refine E.out.mono ?_;rintro e w1 ⟨A',C,rfl,h1,h2⟩;go_wp2;go_ret;exact⟨_,_,rfl,h1,h2⟩
theorem zw2 (h:SvAt w X S Y V) (hn:V.st.length<=1000000) (s:Int) (t:Nat):
  Calls prog 15 #[.pointer (some ⟨Y.s,0,none⟩),.int .i64 s,.int .u64 (t:Int)] w fun e w'=>e=.returned (.tuple #[((V.st.find? (isAt s t)).getD It.none_).val,.bool (V.st.find? (isAt s t)).isSome])/\Below w.heap.size w w':=by
 have E:=b_ w (.cells #[.int .i64 0,.int .i64 0,.int .u64 0,.int .u64 0,.int .i64 0] 49);have I:=BoxO.new w #[.int .i64 0,.int .i64 0,.int .u64 0,.int .u64 0,.int .i64 0] 49;have h1:=h.below E;generalize hW:w.alloc (.cells #[.int .i64 0,.int .i64 0,.int .u64 0,.int .u64 0,.int .i64 0] 49)=W at *;have c5:=h1.box.cell 5;simp only[Yw.cells,gE0,gE1]at c5;have J:=lw5 Y.A.a Y.A.n Y.A.c V.st s t _ (by rw[h1.alen];omega) h1.st.now.row;obtain⟨o,Q⟩:=n_ (V.st.find? (isAt s t));rw[<-Q]at J ⊢;obtain⟨r,U⟩:=n_ (o.getD It.none_);rw[<-U]at J ⊢;have Z:=H_ J;clear J h h1 Q U;unfold It.val at *;go_enter func15,ntmps15;go_wp2_with fail;refine Z.out.mono ?_;rintro e w1 ⟨rfl,H⟩;have C:=I.below H;have O:=az E H;have z0:=C.free 0;have z1:=C.free 1;have z2:=C.free 2;have z3:=C.free 3;have z4:=C.free 4;have s0:=C.c0;have s1:=C.c1;have s2:=C.c2;have s3:=C.c3;have s4:=C.c4;clear Z C I E H;go_wp2;refine bodyPost_ret (v:=.tuple #[.agg #[.int .i64 r.s,.int .i64 r.k,.int .u64 (r.t:Int),.int .u64 (r.v:Int),.int .i64 r.x],.bool o.isSome]) (by simp[results,go_sem, *]) rfl ⟨rfl,?_⟩;exact((((O.setCell (p:=⟨w.heap.size,0,none⟩) l_ _).setCell (p:=⟨w.heap.size,1,none⟩) l_ _).setCell (p:=⟨w.heap.size,2,none⟩) l_ _).setCell (p:=⟨w.heap.size,3,none⟩) l_ _).setCell (p:=⟨w.heap.size,4,none⟩) l_ _
theorem qk5 {α:Type} {l:List α} (h:l.length=5):∃a b c d e,l=[a,b,c,d,e]:=by
 rcases l with _|⟨a,_|⟨b,_|⟨c,_|⟨d,_|⟨e,_|⟨f,l⟩⟩⟩⟩⟩⟩ <;>simp at h
 exact⟨a,b,c,d,e,rfl⟩
theorem cg5 (g:Nat) (w:World) (a b c d e:Value):Chg [g] w (((((w.setCell ⟨g,0,none⟩ a).setCell ⟨g,1,none⟩ b).setCell ⟨g,2,none⟩ c).setCell ⟨g,3,none⟩ d).setCell ⟨g,4,none⟩ e):=
 (((((Chg.refl [g] w).setCell _ (.inl s_)).setCell _ (.inl s_)).setCell _ (.inl s_)).setCell _ (.inl s_)).setCell _ (.inl s_)
theorem kz18 {P S a oi v} (h:Hv P S a oi v:=by intro w C;(have k2:=C.1.cell 2;have k3:=C.1.cell 3;have k4:=C.1.cell 4;have k6:=C.1.cell 6;have a9:=C.1.cell 10;simp only[Yw.cells,gE0,gE1]at k2 k3 k4 k6 a9);go_simp;try (with_reducible rfl)):Hv P S a oi v:=h
theorem jj1 (h:SvAt w X S Y V) (hn:V.tabs.length<=1000000):
  Calls prog 10 #[.pointer (some ⟨Y.s,0,none⟩)] w fun e w'=>e=.returned (.agg #[.int .i64 (V.st.length:Int),.int .i64 (V.mem.length:Int),.int .i64 (V.tabs.length:Int),.int .i64 (V.ct:Int),.bool V.only])/\Below w.heap.size w w':=by
 rw[<-h.alen,<-h.tlen,<-h.its];have J:=b_ w (.cells #[.int .i64 0,.int .i64 0,.int .i64 0,.int .i64 0,.bool false] 42);have O:=BoxO.new w #[.int .i64 0,.int .i64 0,.int .i64 0,.int .i64 0,.bool false] 42;have h1:=h.below J;have Q:∀W,MmAt W Y.mm Y.L Y.ns->Calls prog 42 #[.pointer (some ⟨Y.mm,0,none⟩)] W fun e w'=>e=.returned (.int .i64 ((its Y.ns).length:Int))/\w'=W:=fun W U=>sj4 U;obtain⟨W,hW⟩:=n_ (w.alloc (.cells #[.int .i64 0,.int .i64 0,.int .i64 0,.int .i64 0,.bool false] 42));obtain⟨g,hg⟩:=n_ w.heap.size;obtain⟨mn,Z⟩:=n_ ((its Y.ns).length);have H:w.heap.size<=g:=o_
 rw[<-hW]at J O h1;rw[<-hg]at O;rw[<-Z]at Q ⊢;have a5:BoxO W.drew 81 Y.s (Y.cells X.d V)/\LgAt W.drew Y.g X.d V.nm V.sz V.ct/\MmAt W.drew Y.mm Y.L Y.ns/\(∃cs:List Value,cs.length=5/\BoxO W.drew 42 g cs)/\Below w.heap.size w W.drew:=⟨h1.box,h1.log,h1.mem.below (ak b0_),⟨_,rfl,O⟩,ak J⟩;have HN:Hid (Y.s∉[g]/\Y.g∉[g]/\∀x∈Y.mm::skF Y.L Y.ns,x∉[g]):=H_ ⟨fun U=>by have:=h.box.lt;have:=a_.1 U;omega,fun U=>by have:=h.log.lt;have:=a_.1 U;omega,fun x hx U=>by have:=h.mem.lt x hx;have:=a_.1 U;omega⟩;have a6:=H_ Q;have HV:=H_ hW;have HG:=H_ hg;have a7:=H_ a5;clear h h1 hW hg a5 O J Q Z;go_enter func10,ntmps10;go_wp2_with fail;rw[<-HV.out,<-HG.out];refine wp_region_held_drew (S:=fun w'=>BoxO w' 81 Y.s (Y.cells X.d V)/\LgAt w' Y.g X.d V.nm V.sz V.ct/\MmAt w' Y.mm Y.L Y.ns/\(∃cs:List Value,cs.length=5/\BoxO w' 42 g cs)/\Below w.heap.size w w') rfl a7.out (fun C=>?_);refine w_v 0 C ?_ (k:=kz18);go_simp;refine w_v 1 C ?_ (k:=kz18);go_simp;refine w_v 2 C ?_ (k:=kz18);go_simp;refine w_v 4 C ?_ (k:=kz18);go_simp;refine w_v 5 C ?_ (k:=kz18);go_simp;refine w_v 6 C ?_ (k:=kz18);go_simp;refine w_v 7 C ?_ (k:=kz18);go_simp;refine w_v 9 C ?_ (k:=kz18);go_simp;refine w_v 10 C ?_ (k:=kz18);go_simp;refine w_v 11 C ?_ (k:=kz18);go_simp;refine w_v 12 C ?_ (k:=kz18);go_simp;refine w_v 13 C ?_ (k:=kz18);go_simp;refine w_v 14 C ?_ (k:=kz18);go_simp;refine w_v 15 C ?_ (k:=kz18);go_simp;refine w_v 16 C ?_ (k:=kz18);go_simp;refine w_v 17 C ?_ (k:=kz18);go_simp;refine w_v 19 C ?_ (k:=kz18);go_simp;refine w_v 20 C ?_ (k:=kz18);go_simp;refine w_v 21 C ?_ (k:=kz18);go_simp;refine w_v 22 C ?_ (k:=kz18);go_simp;refine w_r 3 fun K I=>?_;go_simp
 with_reducible refine(sq2 Y.s 6 (Y.A.n:Int) _ (C.1.cell 6)).mono ?_
 rintro e w3 ⟨rfl,rfl⟩;go_simp;refine I.out _ _ C ?_;clear C I K;intro C;go_simp;refine w_r 8 fun K I=>?_;go_simp
 with_reducible refine(a6.out _ C.2.2.1).mono ?_
 rintro e w3 ⟨rfl,rfl⟩;go_simp;refine I.out _ _ C ?_;clear C I K;intro C;go_simp;refine w_r 18 fun K I=>?_;go_simp
 with_reducible refine(rv2 Y.g X.d V.nm V.sz V.ct _ C.2.1).mono ?_
 rintro e w3 ⟨rfl,rfl⟩;go_simp;refine I.out _ _ C ?_;clear C I K;intro C;go_simp;refine w_v 23 C ?_ (k:=kz18);go_simp;refine w_r 24 fun K I=>?_
 (clear HV a7;generalize W.drew=Wd at C ⊢;have b2:=C;obtain⟨b3,b5,b6,⟨cs,b7,E⟩,a8⟩:=b2;obtain⟨a0,a1,a2,a3,a4,rfl⟩:=qk5 b7;have s0:=E.c0;have s1:=E.c1;have s2:=E.c2;have s3:=E.c3;have s4:=E.c4;have z0:=E.free 0;have z1:=E.free 1;have z2:=E.free 2;have z3:=E.free 3;have z4:=E.free 4)
 go_simp;refine I.out _ _ ⟨b3.chg (cg5 _ _ _ _ _ _ _) HN.out.1,b5.chg (cg5 _ _ _ _ _ _ _) HN.out.2.1,b6.chg (cg5 _ _ _ _ _ _ _) HN.out.2.2,⟨_,by simp,((((E.store 0 _).store 1 _).store 2 _).store 3 _).store 4 _⟩,((((a8.setCell (p:=⟨g,0,none⟩) H _).setCell (p:=⟨g,1,none⟩) H _).setCell (p:=⟨g,2,none⟩) H _).setCell (p:=⟨g,3,none⟩) H _).setCell (p:=⟨g,4,none⟩) H _⟩ ?_;clear C I K;intro C;go_simp;refine w_d ?_;clear a6;go_wp2;refine bodyPost_ret (v:=.agg #[.int .i64 (Y.A.n:Int),.int .i64 (mn:Int),.int .i64 (Y.T.n:Int),.int .i64 (V.ct:Int),.bool V.only]) (by simp[results,go_sem, *]) rfl ⟨rfl,?_⟩;exact((((a8.setCell (p:=⟨g,0,none⟩) H _).setCell (p:=⟨g,1,none⟩) H _).setCell (p:=⟨g,2,none⟩) H _).setCell (p:=⟨g,3,none⟩) H _).setCell (p:=⟨g,4,none⟩) H _
theorem SvAt.put (h:SvAt w X S Y V) (e:X1.d=X.d) (hd:Dm w1 X1 S1) (c:Chg (Y.g::X.foot) w w1) (hf:∀g∈X1.foot,g∈X.foot\/w.heap.size<=g) {sz ct:Nat} (hl:LgAt w1 Y.g X.d V.nm sz ct):SvAt w1 X1 S1 Y { V with sz:=sz,ct:=ct }/\Chg (XY X Y) w w1/\∀g∈XY X1 Y,g∈XY X Y\/w.heap.size<=g:=by
 have hn:∀g∈Y.foot,g∉X.foot:=h.apart.x;have O:Y.g∈Y.foot:=Yw.aj.2 (.inr (.inr (.inl rfl)));have H:Chg (XY X Y) w w1:=c.mono fun g C=>.inl (by
  rcases f_.1 C with rfl|C
  ·exact p_ _ O
  ·exact x_ _ C)
 have I:∀g∈XY X1 Y,g∈XY X Y\/w.heap.size<=g:=fun g C=>by
  rcases k_.1 C with h1|h1
  ·rcases hf g h1 with h2|h2
   ·exact .inl (x_ _ h2)
   ·exact .inr h2
  ·exact .inl (p_ _ h1)
 have hm:∀g∈Y.foot,g≠Y.g->g∉Y.g::X.foot:=fun g C a2 E=>by
  rcases f_.1 E with q|q
  ·exact a2 q
  ·exact hn g C q
 have Q:=h.apart.s;have U:=h.apart.m;have Z:=h.apart.g;refine⟨⟨hd,by rw[e];exact h.box.chg c (hm _ (Yw.aj.2 (.inl rfl)) (fun e=>Q (by rw[e];exact e_ _ i_))),by rw[e];exact h.man.chg c (hm _ (Yw.aj.2 (.inr (.inl rfl))) (fun e=>U (by rw[e];exact i_))),?_,h.pout,by rw[e];exact hl,h.mem.chg c (fun g C=>hm g (Yw.aj.2 ?_) (fun e=>Z (by rw[<-e];exact C))),h.its,h.tabs.step H I,h.st.step H I,⟨fun g C E=>?_,Q,U,Z⟩,h.ng⟩,H,I⟩
 ·refine⟨(kz c h.row.row l_ (fun j hj a J E=>?_)).up c.size,h.row.nc,h.row.cm,h.row.nb,fun j hj a J=>⟨(h.row.away j hj a J).1,fun E=>?_⟩⟩
  ·rcases f_.1 E with q|q
   ·exact h.pout j hj a J (by rw[q];exact O)
   ·exact(h.row.away j hj a J).2 q
  ·rcases hf _ E with h1|h1
   ·exact(h.row.away j hj a J).2 h1
   ·obtain⟨b,e,q1,_⟩:=h.row.row.cell j hj
    rw[J]at e;injection e with e;subst e;omega
 ·rcases f_.1 C with rfl|C
  ·exact .inr (.inr (.inr (.inl rfl)))
  ·exact .inr (.inr (.inr (.inr C)))
 ·rcases hf g E with h1|h1
  ·exact hn g C h1
  ·have:=h.ylt g C
   omega
theorem SvAt.mput (h:SvAt w X S Y V) {E:List Nd} (hm:MmAt w1 Y.mm Y.L E) (c:Chg (Y.mm::skF Y.L Y.ns) w w1) (hf:∀g∈skF Y.L E,g∈skF Y.L Y.ns\/w.heap.size<=g):SvAt w1 X S { Y with ns:=E } { V with mem:=Go.Proofs.YtkdbagdiplpcfaaGreatDoor.its E }/\Chg (XY X Y) w w1/\∀g∈XY X { Y with ns:=E },g∈XY X Y\/w.heap.size<=g:=by
 have I:∀g∈Y.mm::skF Y.L Y.ns,g∈Y.foot:=fun g C=>Yw.aj.2 (by
  rcases f_.1 C with rfl|C
  ·exact .inr (.inr (.inr (.inl rfl)))
  ·exact .inr (.inr (.inr (.inr C))))
 have O:Chg (XY X Y) w w1:=c.mono fun g C=>.inl (p_ _ (I g C));have a6:∀g∈Y.mm::skF Y.L E,g∈Y.mm::skF Y.L Y.ns\/w.heap.size<=g:=fun g C=>by
  rcases f_.1 C with rfl|C
  ·exact .inl i_
  ·exact(hf g C).imp (e_ _) id
 have J:∀g∈({ Y with ns:=E }:Yw).foot,g∈Y.foot\/w.heap.size<=g:=fun g C=>by
  rcases Yw.aj.1 C with q|q|q|q|q
  ·exact .inl (Yw.aj.2 (.inl q))
  ·exact .inl (Yw.aj.2 (.inr (.inl q)))
  ·exact .inl (Yw.aj.2 (.inr (.inr (.inl q))))
  ·exact .inl (Yw.aj.2 (.inr (.inr (.inr (.inl q)))))
  ·rcases hf g q with q|q
   ·exact .inl (Yw.aj.2 (.inr (.inr (.inr (.inr q)))))
   ·exact .inr q
 have Q:∀g∈XY X { Y with ns:=E },g∈XY X Y\/w.heap.size<=g:=fun g C=>by
  rcases k_.1 C with q|q
  ·exact .inl (x_ _ q)
  ·exact(J g q).imp (p_ _) id
 have U:=h.apart.s;have a1:=h.apart.m;have a2:=h.apart.g;have hs:Y.s∉Y.mm::skF Y.L Y.ns:=fun hm=>U (e_ _ (e_ _ hm));have a4:Y.m∉Y.mm::skF Y.L Y.ns:=fun hm=>a1 (e_ _ hm);have Z:∀x,x∉Y.mm::skF Y.L Y.ns->x < w.heap.size->x∉Y.mm::skF Y.L E:=fun x h1 h2 h3=>by
  rcases a6 x h3 with q|q
  ·exact h1 q
  ·omega
 have l1:=h.box.lt;have l2:=h.man.lt;have l3:=h.log.lt;refine⟨⟨h.dm.chg c (fun g C=>⟨h.apart.x g (I g C),h.ng g (I g C)⟩),h.box.chg c hs,h.man.chg c a4,?_,?_,h.log.chg c a2,hm,rfl,h.tabs.step O Q,h.st.step O Q,⟨fun g C H=>?_,?_,?_,Z _ a2 l3⟩,fun g C=>?_⟩,O,Q⟩
 ·exact⟨(kz c h.row.row l_ (fun j hj a ha H=>h.pout j hj a ha (I _ H))).up c.size,h.row.nc,h.row.cm,h.row.nb,h.row.away⟩
 ·intro j hj a ha H
  rcases J _ H with q|q
  ·exact h.pout j hj a ha q
  ·obtain⟨b,e,q1,_⟩:=h.row.row.cell j hj
   rw[ha]at e;injection e with e;subst e;omega
 ·rcases J g C with q|q
  ·exact h.apart.x g q H
  ·have:=h.dm.dk.lt g H
   omega
 ·intro H
  rcases f_.1 H with q|q
  ·exact U (by rw[q];exact i_)
  ·rcases f_.1 q with q|q
   ·exact U (by rw[q];exact e_ _ i_)
   ·exact Z _ hs l1 q
 ·intro H
  rcases f_.1 H with q|q
  ·exact a1 (by rw[q];exact i_)
  ·exact Z _ a4 l2 q
 ·rcases J g C with q|q
  ·exact h.ng g q
  ·have:=h.dm.env.base
   omega
def NewA (w:World) (Y Y1:Yw):Prop:=Y1.A=Y.A\/∀a,Y1.A.a=some a->w.heap.size<=a.block
def eq1 (X:Dw) (Y:Yw) (w w1:World) (S1:Sd) (V1:Sv):Prop:=∃X1 Y1,X1.d=X.d/\Y1.s=Y.s/\SvAt w1 X1 S1 Y1 V1/\Chg (XY X Y) w w1/\(∀g∈XY X1 Y1,g∈XY X Y\/w.heap.size<=g)/\NewA w Y Y1
def yw (X:Dw) (Y:Yw) (w:World) (R:Sd×Sv×Nat) (e:Ending) (w1:World):Prop:=e=.returned (.int .i64 (R.2.2:Int))/\eq1 X Y w w1 R.1 R.2.1
theorem eq1.refl (h:SvAt w X S Y V):eq1 X Y w w S V:=⟨X,Y,rfl,rfl,h,Chg.refl _ _,fun _ C=>.inl C,.inl rfl⟩
theorem eq1.same (h:SvAt w X S Y V) (C:Below w.heap.size w w1):eq1 X Y w w1 S V:=⟨X,Y,rfl,rfl,h.below C,Chg.of_below C _,fun _ E=>.inl E,.inl rfl⟩
theorem eq1.up (h:eq1 X Y w w1 S V):aw1 X Y w w1 S V:=let ⟨X1,Y1,a,b,c,d,e,_⟩:=h;⟨X1,Y1,a,b,c,d,e⟩
theorem pq3 (h:SvAt w X S Y V) (A:Option Addr) (n c:Nat) (l:List It) (hn:n<=100000) (hr:Row w.heap.size w A n 5 (itc l)) (hA:∀a,A=some a->a.block∉XY X Y) (e9:∀x∈l,x.fit) (i4:Stt V.st) (k0:V.st.length<=2000) (i5:V.sz<=1000000000000) (i6:V.ct<=1000000000) (i7:V.mem.length<=400000) (i8:V.nm.length<=1000):
  Calls prog 13 #[.pointer (some ⟨Y.s,0,none⟩),.slice A n c] w (yw X Y w (St.apply S V l)):=by
 have Q:=hr.qj;obtain⟨R,C⟩:=n_ (St.apply S V l);have e':=C;unfold St.apply at C;rw[<-e'];clear e';have I:=h.lt;have d6:=h.box.cell 10;have c5:=h.box.cell 5;simp only[Yw.cells,gE0,gE1]at d6 c5;have a0:=xq2 A n c l w o_ hr;obtain⟨ab,O⟩:=n_ (l.all It.ok);have HH:=H_ h;have k2:=H_ Q;have HX:=H_ I;have d0:=H_ hr
 cases ho:V.only with
 |true=>
  rw[if_pos ho]at C;rw[ho]at d6;have HZ:Hid (yw X Y w R (.returned (.int .i64 14)) w):=H_ (by rw[C];exact⟨rfl,eq1.refl h⟩);clear C ho h hr I a0 O Q;go_enter func13,ntmps13;go_wp2;go_ret;exact HZ.out
 |false=>
 rw[if_neg (by simp[ho])]at C;rw[ho]at d6
 by_cases h0:n=0
 ·have a2:l=[]:=ag_.1 o_
  rw[if_pos (.inl a2)]at C;have HZ:Hid (yw X Y w R (.returned (.int .i64 1)) w):=H_ (by rw[C];exact⟨rfl,eq1.refl h⟩);subst h0;clear C ho h hr I a0 O Q a2;go_enter func13,ntmps13;go_wp2;go_ret;exact HZ.out
 have e0:((n:Int)==0)=false:=by simp;omega
 have a2:l≠[]:=fun e=>by rw[e]at Q;simp at Q;omega
 rw[<-O]at a0;have b7:=H_ a0
 cases ab with
 |false=>
  rw[if_pos (.inr O.symm)]at C;have HZ:Hid (∀w',Below w.heap.size w w'->yw X Y w R (.returned (.int .i64 1)) w'):=H_ (fun w' hb=>by rw[C];exact⟨rfl,eq1.same h hb⟩);clear C ho h hr I a0 O Q a2;go_enter func13,ntmps13;go_wp2_with fail
  refine m_ b7 ?_
  rintro e w2 ⟨rfl,E⟩;have HY:=H_ (HZ.out _ E);clear E HZ;go_wp2;go_ret;exact HY.out
 |true=>
 rw[if_neg (by intro q;rcases q with q|q;exact a2 q;rw[<-O]at q;cases q)]at C
 by_cases h1:1000 < n
 ·rw[if_pos o_]at C
  have HZ:Hid (∀w',Below w.heap.size w w'->yw X Y w R (.returned (.int .i64 2)) w'):=H_ (fun w' hb=>by rw[C];exact⟨rfl,eq1.same h hb⟩);have e1:((1000:Int) < (n:Int))=True:=eq_true o_;clear C ho h hr I a0 O Q a2;go_enter func13,ntmps13;go_wp2_with fail
  refine m_ b7 ?_
  rintro e w2 ⟨rfl,E⟩;have HY:=H_ (HZ.out _ E);clear E HZ;go_wp2;go_ret;exact HY.out
 rw[if_neg o_]at C;have e1:((1000:Int) < (n:Int))=False:=eq_false o_;have b8:=h.st.now;have d7:=fun(W:World) (hb:Below w.heap.size w W)=>vj3 Y.A.a Y.A.n Y.A.c V.st A n c l W (by have:=h.alen;omega) b8.nc b8.cm i4 ((b8.row.below hb).up hb.size) ((hr.below hb).up hb.size);have f5:∀W,Below w.heap.size w W->W.cell? ⟨Y.s,5,none⟩=some (.slice Y.A.a Y.A.n Y.A.c):=fun W hb=>(hb.cell (p:=⟨Y.s,5,none⟩) h.box.lt).trans c5;obtain⟨J,hJ⟩:=n_ (joins V.st l);rw[<-hJ]at C d7;have f6:=H_ d7;have f7:=H_ f5;have HR:=H_ C;have HJ:=H_ hJ;have f8:=H_ O;have k7:=H_ h.ylt;clear C ho h hr I a0 O Q a2 b8 d7 f5 hJ c5;go_enter func13,ntmps13;go_wp2_with fail
 refine m_ b7 ?_
 rintro e w2 ⟨rfl,E⟩;have c5:=f7.out w2 E;go_wp2_with fail
 with_reducible refine(f6.out w2 E).mono ?_
 rintro e w3 ⟨A3,k3,rfl,f9,a5,d8⟩;have f':=(HH.out.below E).below d8;have d1:=az E d8;have d2:vz (XY X Y) w3 fun W=>Its 0 W A3 k3 k3 J:=fun W cW=>⟨(kz cW a5.row l_ (fun j _ a ha hm=>by
  have:=a5.low a ha;have:=HX.out _ hm;have:=E.size;omega)).up cW.size,a5.nc,a5.cm,fun _ _=>w_ _⟩
 have j1:Hid (∀a,A3=some a->w.heap.size<=a.block):=H_ fun a ha=>j_ E.size (a5.low a ha);have g1:=H_ f9;have a4:=H_ f';have j2:=H_ d2;have HB:=H_ d1;clear f9 f' d2 a5 d8 E d1 c5 f6 b7 f7;have C:=HR.out
 by_cases h2:1500 < k3
 ·rw[if_pos (by rw[<-g1.out];exact h2)]at C
  have e2:((1500:Int) < (k3:Int))=True:=eq_true o_;have HZ:Hid (yw X Y w R (.returned (.int .i64 2)) w3):=H_ (by rw[C];exact⟨rfl,eq1.same HH.out HB.out⟩);clear C h2;go_wp2;go_ret;exact HZ.out
 rw[if_neg (by rw[<-g1.out];exact h2)]at C;have e2:((1500:Int) < (k3:Int))=False:=eq_false o_;have c2:=a4.out.box.cell 2;simp only[Yw.cells,gE0,gE1]at c2;have b0:=cx5 X S Y.g V.nm V.sz V.ct A n c l w3 i8 a4.out.dm a4.out.log (a4.out.apart.x _ (Yw.aj.2 (.inr (.inr (.inl rfl))))) (a4.out.ng _ (Yw.aj.2 (.inr (.inr (.inl rfl))))) i5 i6 o_ o_ ((d0.out.below HB.out).up HB.out.size) (fun x hx=>⟨by have:=f8.out;rw[eq_comm,ab_]at this;exact this x hx,e9 x hx⟩);obtain⟨a,ha⟩:=n_ (S.append V.nm (Lg.batch l));rw[<-ha]at b0 C;obtain⟨S4,d9⟩:=a;unfold sv3 at b0;simp only at b0 C;have d':=H_ b0;have g2:=H_ C;clear b0 C ha h2 HR;go_wp2_with fail
 refine m_ d' ?_
 rintro e w4 ⟨rfl,X4,e4,b',c9,c',a6⟩
 by_cases h4:d9=0
 ·subst h4
  rw[if_pos rfl]at a6;obtain⟨U,H,Z⟩:=a4.out.put e4 b' c9 c' a6;have c3:=U.box.cell 3;simp only[Yw.cells,gE0,gE1]at c3;have g4:=(kz H ((d0.out.below HB.out).up HB.out.size) l_ (fun j _ a ha=>hA a ha)).up H.size;have e5:∀g∈Y.mm::skF Y.L Y.ns,g∈Y.foot:=fun g hg=>Yw.aj.2 (by
   rcases f_.1 hg with rfl|hg
   ·exact .inr (.inr (.inr (.inl rfl)))
   ·exact .inr (.inr (.inr (.inr hg))))
  have g5:=lv3 U.mem A n c l o_ (by rw[U.its];exact i7) g4 (fun a ha=>⟨fun hm=>hA a ha (p_ _ (e5 _ (by rw[hm];exact i_))),fun hm=>hA a ha (p_ _ (e5 _ (e_ _ hm)))⟩) f8.out.symm;have g6:=H_ U;have g7:=H_ g5;have a8:=H_ (c_ H Z);have j4:=H_ e4;clear U g5 g4 H Z c9 c' b' a6 e4 e5 d';go_wp2_with fail
  refine m_ g7 ?_
  rintro e w5 ⟨e6,rfl,g8,g9,g',h6⟩;obtain⟨h7,b1,b2⟩:=g6.out.mput g8 g' h6;have d3:=(j2.out.step a8.out.1 a8.out.2).step b1 b2;have d4:=sq3 h7 A3 k3 k3 J d3;have hc:=(((Chg.of_below HB.out (XY X Y)).trans a8.out.1 (fun g hg=>.inl hg)).trans b1 (fun g hg=>(a8.out.2 g hg).imp id (j_ HB.out.size)));have h8:∀g∈XY X4 { Y with ns:=e6 },g∈XY X Y\/w.heap.size<=g:=fun g hg=>by
   rcases b2 g hg with q|q
   ·exact(a8.out.2 g q).imp id (j_ HB.out.size)
   ·exact .inr (j_ (j_ HB.out.size a8.out.1.size) q)
  have d5:=H_ d4;have HC:=H_ hc;have h9:=H_ h8;have j5:=H_ (show its e6=l.foldl wput V.mem by rw[g9,g6.out.its]);clear h7 d3 d4 hc h8 g8 g9 g' h6 b1 b2 g7 c3 c2;go_wp2_with fail
  refine m_ d5 ?_
  rintro e w6 ⟨rfl,h',i0⟩;have hz:yw X Y w R (.returned (.int .i64 0)) w6:=by
   rw[g2.out,if_neg s_];refine⟨rfl,X4,{ Y with ns:=e6,A:=⟨A3,k3,k3⟩ },j4.out,rfl,?_,HC.out.trans i0 h9.out,h9.out,.inr j1.out⟩;rw[<-j5.out];exact h'
  have HZ:=H_ hz;clear hz h' i0 d5;go_wp2;go_ret;exact HZ.out
 ·have e3:((d9:Int)==0)=false:=by simp;omega
  rw[if_neg h4]at a6;obtain⟨U,H,Z⟩:=a4.out.put e4 b' c9 c' a6;have hz:yw X Y w R (.returned (.int .i64 (d9:Int))) w4:=by
   rw[g2.out,if_pos h4];exact⟨rfl,X4,Y,e4,rfl,U,(Chg.of_below HB.out (XY X Y)).trans H (fun g hg=>.inl hg),fun g hg=>(Z g hg).imp id (j_ HB.out.size),.inl rfl⟩
  have HZ:=H_ hz;clear hz U H Z c9 c' b' a6 e4 d' h4;go_wp2;go_ret;exact HZ.out
theorem oz2 (h:SvAt w X S Y V) (A:Option Addr) (n c:Nat) (l:List It) (U:n<=100000) (Z:Row w.heap.size w A n 5 (itc l)) (hA:∀a,A=some a->a.block∉XY X Y) (C:∀x∈l,x.fit) (E:Stt V.st) (H:V.st.length<=2000) (I:V.sz<=1000000000000) (J:V.ct<=1000000000) (O:V.mem.length<=400000) (Q:V.nm.length<=1000):
  Calls prog 13 #[.pointer (some ⟨Y.s,0,none⟩),.slice A n c] w (gx1 X Y w (St.apply S V l)):=(pq3 h A n c l U Z hA C E H I J O Q).mono fun _ _ ⟨a,b⟩=>⟨a,b.up⟩
structure Mt where
 floor:Nat
 cert:Nat
 at_:Nat
 lease:Nat
def Mt.val (m:Mt):Value:=.agg #[.int .u64 (m.floor:Int),.int .u64 (m.cert:Int),.int .u64 (m.at_:Int),.int .u64 (m.lease:Int)]
namespace St
def cv1 (V:Sv):Mt:=⟨V.M.v.floor,V.M.v.cert,V.M.v.at_,V.M.v.lease⟩
def sync (S:Sd) (V:Sv):Sd×Sv×Nat:=
 if V.only=true then (S,V,14) else
 if (S.sync V.nm).2=0 then ((S.sync V.nm).1,V,0) else ((S.sync V.nm).1,{ V with only:=true },(S.sync V.nm).2)
end St
theorem gx3 (h:SvAt w X S Y V) (hn:V.M.v.files.length<=10000):
  Calls prog 40 #[.pointer (some ⟨Y.s,0,none⟩)] w fun e w'=>e=.returned (St.cv1 V).val/\Below w.heap.size w w':=by
 have E:=b_ w (.cells #[.int .u64 0,.int .u64 0,.int .u64 0,.int .u64 0] 29);have J:=BoxO.new w #[.int .u64 0,.int .u64 0,.int .u64 0,.int .u64 0] 29;have h1:=h.below E;have k1:=h1.box.cell 1;simp only[Yw.cells,gE0,gE1]at k1;have Z:=sx2 X.d h1.man h1.row.row (by rw[h1.plen];exact hn);obtain⟨v,hv0⟩:=n_ V.M.v;unfold St.cv1 Mt.val;rw[<-hv0]at Z ⊢;unfold Vw.val at Z;have HV:=H_ Z;have HB:=H_ (c_ E J);clear Z hv0 h h1 E J;go_enter func40,ntmps40;go_wp2_with fail;refine HV.out.mono ?_;rintro e w2 ⟨A,c,rfl,_,H⟩;have O:=az HB.out.1 H;have Q:=HB.out.2.below H;have I:=b_ w2 (.cells #[.int .i64 v.log,.slice A Y.P.n c,.int .u64 (v.floor:Int),.int .u64 (v.cert:Int),.int .u64 (v.at_:Int),.int .u64 (v.lease:Int)] 121);have U:=az O I;have C:=Q.below I;have f0:=C.free 0;have f1:=C.free 1;have f2:=C.free 2;have f3:=C.free 3;have s0:=C.c0;have s1:=C.c1;have s2:=C.c2;have s3:=C.c3;have HQ:=H_ U;clear HV HB O Q I U C H;go_wp2;refine bodyPost_ret (v:=.agg #[.int .u64 (v.floor:Int),.int .u64 (v.cert:Int),.int .u64 (v.at_:Int),.int .u64 (v.lease:Int)]) (by simp[results,go_sem, *]) rfl ⟨rfl,?_⟩;exact(((HQ.out.setCell (p:=⟨w.heap.size,0,none⟩) l_ _).setCell (p:=⟨w.heap.size,1,none⟩) l_ _).setCell (p:=⟨w.heap.size,2,none⟩) l_ _).setCell (p:=⟨w.heap.size,3,none⟩) l_ _
theorem ew3 (h:SvAt w X S Y V) (H:V.st.length<=1000000) (s:Int):
  Calls prog 78 #[.pointer (some ⟨Y.s,0,none⟩),.int .i64 s] w (zy w (V.st.filter fun a=>a.s==s)):=by
 have c5:=h.box.cell 5;simp only[Yw.cells,gE0,gE1]at c5;have C:=H_ (jv3 Y.A.a Y.A.n Y.A.c V.st s w (by rw[h.alen];omega) h.st.now.row);clear h;go_enter func78,ntmps78;go_wp2_with fail;refine C.out.mono ?_;rintro e w1 ⟨A',k,rfl,h1⟩;have E:=H_ h1;clear h1;go_wp2;go_ret;exact⟨A',k,rfl,E.out⟩
theorem qj4 (h:SvAt w X S Y V) (a7:V.nm.length<=1000):
  Calls prog 18 #[.pointer (some ⟨Y.s,0,none⟩)] w (yw X Y w (St.sync S V)):=by
 obtain⟨R,C⟩:=n_ (St.sync S V);have Q:=C;unfold St.sync at C;rw[<-Q];clear Q;have O:=h.box.cell 10;have c2:=h.box.cell 2;simp only[Yw.cells,gE0,gE1]at O c2;have HH:=H_ h
 cases U:V.only with
 |true=>
  rw[if_pos U]at C;rw[U]at O;have Z:Hid (yw X Y w R (.returned (.int .i64 14)) w):=H_ (by rw[C];exact⟨rfl,eq1.refl h⟩);clear C U h;go_enter func18,ntmps18;go_wp2;go_ret;exact Z.out
 |false=>
 rw[if_neg (by simp[U])]at C;rw[U]at O;have E:=ek2 X S Y.g V.nm V.sz V.ct w a7 h.dm h.log (h.apart.x _ (Yw.aj.2 (.inr (.inr (.inl rfl)))));obtain⟨r,hr⟩:=n_ (S.sync V.nm);rw[<-hr]at E C;obtain⟨S1,er⟩:=r;simp only at E C;have a8:=H_ E;have HR:=H_ C;clear E C hr h;go_enter func18,ntmps18;go_wp2_with fail;refine a8.out.mono ?_;rintro e w1 ⟨rfl,hu⟩;obtain⟨X1,e1,H,I,J⟩:=HH.out.disk hu
 by_cases h0:er=0
 ·subst h0
  have Z:Hid (yw X Y w R (.returned (.int .i64 0)) w1):=H_ (by
   have:=HR.out;rw[if_pos rfl]at this;rw[this];exact⟨rfl,X1,Y,e1,rfl,H,I,J,.inl rfl⟩)
  clear H I J hu e1;go_wp2;go_ret;exact Z.out
 ·have e3:((er:Int)==0)=false:=by simp;omega
  have a0:=pk2 H er;have a':=H_ a0;have HU:=H_ (c_ e1 (c_ I J));clear a0 H I J hu e1;go_wp2_with fail;refine a'.out.mono ?_;rintro e w2 ⟨rfl,a1,a2⟩;have Z:Hid (yw X Y w R (.returned (.int .i64 (er:Int))) w2):=H_ (by
   have:=HR.out;rw[if_neg h0]at this;rw[this];exact⟨rfl,X1,Y,HU.out.1,rfl,a1,HU.out.2.1.trans a2 HU.out.2.2,HU.out.2.2,.inl rfl⟩)
  clear a1 a2;go_wp2;go_ret;exact Z.out
def St.may1 (a b:Nat):Prop:=a<=281474976710656/\(a=0->b=0)
def St.aj1 (m was:Mt):Prop:=St.may1 m.floor was.floor/\St.may1 m.cert was.cert/\St.may1 m.at_ was.at_/\St.may1 m.lease was.lease
instance (a b:Nat):Decidable (St.may1 a b):=by unfold St.may1;infer_instance
instance (m was:Mt):Decidable (St.aj1 m was):=by unfold St.aj1;infer_instance
def St.setMeta (S:Sd) (V:Sv) (m:Mt):Sd×Sv×Nat:=if V.only=true then (S,V,14) else St.saved S V ⟨[],[],0,m.floor,m.cert,m.at_,m.lease⟩
def pairs (m was:Mt):List Value:=[.int .u64 (m.floor:Int),.int .u64 (was.floor:Int),.int .u64 (m.cert:Int),.int .u64 (was.cert:Int),.int .u64 (m.at_:Int),.int .u64 (was.at_:Int),.int .u64 (m.lease:Int),.int .u64 (was.lease:Int)]
def St.mayN (m was:Mt) (k:Nat):Prop:=(0 < k->St.may1 m.floor was.floor)/\(1 < k->St.may1 m.cert was.cert)/\(2 < k->St.may1 m.at_ was.at_)/\(3 < k->St.may1 m.lease was.lease)
theorem rw5 (m was:Mt) {k:Nat} (C:k < 4):∃a b:Nat,(pairs m was)[k *2]?=some (.int .u64 (a:Int))/\(pairs m was)[k *2+1]?=some (.int .u64 (b:Int))/\(¬St.may1 a b->¬St.aj1 m was)/\(St.mayN m was k->St.may1 a b->St.mayN m was (k+1)):=by
 have e:k=0\/k=1\/k=2\/k=3:=o_
 rcases e with rfl|rfl|rfl|rfl
 ·exact⟨_,_,rfl,rfl,fun h q=>h q.1,fun h q=>⟨fun _=>q,fun z=>o_,fun z=>o_,fun z=>o_⟩⟩
 ·exact⟨_,_,rfl,rfl,fun h q=>h q.2.1,fun h q=>⟨fun _=>h.1 o_,fun _=>q,fun z=>o_,fun z=>o_⟩⟩
 ·exact⟨_,_,rfl,rfl,fun h q=>h q.2.2.1,fun h q=>⟨fun _=>h.1 o_,fun _=>h.2.1 o_,fun _=>q,fun z=>o_⟩⟩
 ·exact⟨_,_,rfl,rfl,fun h q=>h q.2.2.2,fun h q=>⟨fun _=>h.1 o_,fun _=>h.2.1 o_,fun _=>h.2.2.1 o_,fun _=>q⟩⟩
def St.pv1 (S:Sd) (V:Sv) (m:Mt):Sd×Sv×Nat:=if V.only=true then (S,V,14) else if St.aj1 m (St.cv1 V) then St.saved S V ⟨[],[],0,m.floor,m.cert,m.at_,m.lease⟩ else (S,V,1)
theorem fy4.up {w0:World} (E:Below w0.heap.size w0 w) (h:fy4 X Y w w1 S1 V1):eq1 X Y w0 w1 S1 V1:=let ⟨X',H,a,b,c,d,_⟩:=h;⟨X',{ Y with P:=H },a,rfl,b,(Chg.of_below E _).trans c (fun g C=>.inl C),fun g C=>(d g C).imp (fun z=>z) (j_ E.size),.inl rfl⟩
theorem yk2 (h:SvAt w X S Y V) (m:Mt) (d4:V.M.v.files.length<=40) (d5:V.M.count<=1000000000) (d6:V.M.name.length<=1000):
  Calls prog 22 #[.pointer (some ⟨Y.s,0,none⟩),m.val] w (yw X Y w (St.pv1 S V m)):=by
 obtain⟨R,hR⟩:=n_ (St.pv1 S V m);have b8:=hR;unfold St.pv1 at hR;rw[<-b8];clear b8;have O:=b_ w (.cells #[.int .u64 (m.floor:Int),.int .u64 (m.cert:Int),.int .u64 (m.at_:Int),.int .u64 (m.lease:Int)] 29);have a9:=BoxO.new w #[.int .u64 (m.floor:Int),.int .u64 (m.cert:Int),.int .u64 (m.at_:Int),.int .u64 (m.lease:Int)] 29;have h1:=h.below O;have a':=h1.box.cell 10;simp only[Yw.cells,gE0,gE1]at a';have Q:=gx3 h1 o_;obtain⟨b,hb⟩:=n_ (St.cv1 V);rw[<-hb]at Q hR;unfold Mt.val at Q ⊢;have HH:=H_ h;have HB:=H_ (c_ O a9);have b9:=H_ Q
 cases ho:V.only with
 |true=>
  rw[if_pos ho]at hR;rw[ho]at a';have HZ:Hid (∀w',Below w.heap.size w w'->yw X Y w R (.returned (.int .i64 14)) w'):=H_ (fun w' hq=>by rw[hR];exact⟨rfl,eq1.same h hq⟩);have HY:=H_ (HZ.out _ O);clear hR ho h h1 Q hb HZ O a9;go_enter func22,ntmps22;go_wp2;go_ret;exact HY.out
 |false=>
 rw[if_neg (by simp[ho])]at hR;rw[ho]at a';have HR:=H_ hR;clear hR ho h h1 Q hb O a9;go_enter func22,ntmps22;go_wp2_with fail;refine b9.out.mono ?_;rintro e w2 ⟨rfl,b1⟩;have b':=HB.out.2.below b1;have C:=az HB.out.1 b1;have b2:=b_ w2 (.cells #[.int .u64 (b.floor:Int),.int .u64 (b.cert:Int),.int .u64 (b.at_:Int),.int .u64 (b.lease:Int)] 29);have H:=b'.below b2;have c9:=az C b2;have s0:=H.c0;have s1:=H.c1;have s2:=H.c2;have s3:=H.c3;have hP:=BoxO.new (w2.alloc (.cells #[.int .u64 (b.floor:Int),.int .u64 (b.cert:Int),.int .u64 (b.at_:Int),.int .u64 (b.lease:Int)] 29)) (pairs m b).toArray 141;have a4:=H.alloc (.cells (pairs m b).toArray 141);have a5:=az c9 (b_ _ (.cells (pairs m b).toArray 141));rw[Q_]at hP;unfold pairs at hP a4 a5;obtain⟨W,hW⟩:=n_ ((w2.alloc (.cells #[.int .u64 (b.floor:Int),.int .u64 (b.cert:Int),.int .u64 (b.at_:Int),.int .u64 (b.lease:Int)] 29)).alloc (.cells [.int .u64 (m.floor:Int),.int .u64 (b.floor:Int),.int .u64 (m.cert:Int),.int .u64 (b.cert:Int),.int .u64 (m.at_:Int),.int .u64 (b.at_:Int),.int .u64 (m.lease:Int),.int .u64 (b.lease:Int)].toArray 141));rw[<-hW]at hP a4 a5;have HP:Hid (BoxO W 141 (w2.heap.size+1) (pairs m b)):=H_ hP;have d0:=H_ a4;have a6:=H_ a5;have HW:=H_ hW;clear b9 hP a4 a5 hW b' b1 C b2 H c9;go_wp2_with fail;simp only[List.toArray]at HW;rw[<-HW.out];generalize w2.heap.size+1=gp at *;generalize w.heap.size=gm at d0;clear s0 s1 s2 s3
 go_loopw [36] (fun i wr=>∃k:Nat,k<=4/\i=.int .i64 (k:Int)/\Hid (St.mayN m b k)/\Below W.heap.size W wr) (fun i _=>4 - (intOf i).toNat)
 case atStart=>exact⟨0,w_ _,rfl,H_ ⟨fun z=>o_,fun z=>o_,fun z=>o_,fun z=>o_⟩,Below.refl _ _⟩
 case round=>
  obtain⟨k,hk,rfl,U,I⟩:=hrel
  by_cases e5:k < 4
  ·obtain⟨x,y,hx,hy,Z,E⟩:=rw5 m b e5
   have q0:=(HP.out.below I).cell (k *2);have q1:=(HP.out.below I).cell (k *2+1);rw[hx]at q0;rw[hy]at q1;have e6:(k:Int) < 4:=o_
   have g1:IntKind.i64.wrap (k:Int)=(k:Int):=D_ _ o_;have C:=I.alloc I.size (.cells #[.int .u64 (x:Int),.int .u64 (y:Int)] 141)
   by_cases J:St.may1 x y
   ·have a8:=H_ (E U.out J)
    obtain⟨a0,b3⟩:=J;have e1:((281474976710656:Int) < (x:Int))=False:=eq_false o_
    by_cases a7:x=0
    ·obtain rfl:=b3 a7
     subst a7;clear hx hy a0 b3 Z E;go_wp2;go_roundw
     case rel=>exact⟨k+1,o_,by go_num,a8,C⟩
     case measure=>simp[intOf];omega
    ·have e2:((x:Int)==0)=false:=by simp;omega
     clear hx hy a0 b3 Z E;go_wp2;go_roundw
     case rel=>exact⟨k+1,o_,by go_num,a8,C⟩
     case measure=>simp[intOf];omega
   ·have HZ:Hid (yw X Y w R (.returned (.int .i64 1)) (wr.alloc (.cells #[.int .u64 (x:Int),.int .u64 (y:Int)] 141))):=H_ (by
     rw[HR.out,if_neg (Z J)];exact⟨rfl,eq1.same HH.out (a6.out.trans (C.mono a6.out.size))⟩)
    by_cases a0:x<=281474976710656
    ·have a7:x=0/\y≠0:=by
      unfold St.may1 at J;omega
     obtain⟨rfl,e7⟩:=a7;have e2:((y:Int)==0)=false:=by simp;omega
     have e3:((y:Int) !=0)=true:=by simp;omega
     clear hx hy a0 Z E J e7 C;go_wp2;go_ret;exact HZ.out
    ·have e1:((281474976710656:Int) < (x:Int))=True:=eq_true o_
     clear hx hy a0 Z E J C;go_wp2;go_ret;exact HZ.out
  ·have e6:((k:Int) < 4)=False:=eq_false o_
   have b5:=a6.out.trans (I.mono a6.out.size);have h5:=HH.out.below b5;have a1:=d0.out.below I;have s0:=a1.c0;have s1:=a1.c1;have s2:=a1.c2;have s3:=a1.c3;have b6:=dz3 h5 ⟨[],[],0,m.floor,m.cert,m.at_,m.lease⟩ none 0 0 none 0 0 o_ o_ Row.nil_ Row.nil_ d4 d5 d6;unfold Ed.val at b6;have d3:=H_ b6;have e9:=H_ b5;clear b6 h5 b5 a1;go_wp2_with fail;refine d3.out.mono ?_;rintro e w6 ⟨rfl,hg⟩;have HZ:Hid (yw X Y w R (.returned (.int .i64 ((St.saved S V ⟨[],[],0,m.floor,m.cert,m.at_,m.lease⟩).2.2:Int))) w6):=H_ (by
    obtain rfl:k=4:=o_
    rw[HR.out,if_pos ⟨U.out.1 o_,U.out.2.1 o_,U.out.2.2.1 o_,U.out.2.2.2 o_⟩];exact⟨rfl,hg.up e9.out⟩)
   clear hg d3 s0 s1 s2 s3;go_wp2;go_ret;exact HZ.out
end
section
variable {w w1 w2:World} {X X1 X2:Dw} {S S1 S2:Sd} {Y Y1 Y2:Yw} {V V1 V2:Sv} {G F:List Nat}
def back (w w1:World) (G:List Nat):World:={ w1 with heap:=w1.heap.mapIdx fun i o=>if i∈G then (w.heap[i]?).getD o else o }
theorem pw5 {k:Nat} (C:k∈G) (E:k < w.heap.size) (h1:k < w1.heap.size):(back w w1 G).heap[k]?=w.heap[k]?:=by
 unfold back;simp only[Array.getElem?_mapIdx,cj_ h1,a3_,if_pos C,cj_ E,cs_]
theorem wv3 {k:Nat} (C:k∉G):(back w w1 G).heap[k]?=w1.heap[k]?:=by
 unfold back;simp only[Array.getElem?_mapIdx,if_neg C]
 cases w1.heap[k]?<;>rfl
theorem zj2:(back w w1 G).heap.size=w1.heap.size:=by simp[back]
section
variable {nb now grace:Nat} {id:Int}
end
end
section
theorem gk4 (A:Option Addr) (n c:Nat) (l:List It) (v:Int) (lo hi:Nat) (w:World) (hn:n<=1000000) (hr:Row w.heap.size w A n 5 (itc l)):
  Calls prog 77 #[.slice A n c,.int .i64 v,.int .u64 (lo:Int),.int .u64 (hi:Int)] w (dw1 w (l.filter (inRange v lo hi))):=by
 have d1:=hr.qj;obtain⟨i0,a',b0,b1,b2⟩:=info_parts qw;obtain⟨P,hP⟩:∃P:It->Bool,P=inRange v lo hi:=⟨_,rfl⟩;have HP:=H_ (fun y=>congrFun hP y);rw[<-hP];clear hP;go_enter func77,ntmps77;go_wp2
 go_loopw [9,10] (fun s i wr=>∃(k q:Nat) (A2:Option Addr) (c2:Nat),k<=n/\s=.slice A2 q c2/\i=.int .i64 (k:Int)/\Hid (q=((l.take k).filter P).length/\wr.ownsRow w.heap.size 49 5 (.slice A2 q c2) q (itc ((l.take k).filter P)))/\Below w.heap.size w wr) (fun _ i _=>n - (intOf i).toNat)
 case atStart=>exact⟨0,0,none,0,w_ _,rfl,rfl,H_ ⟨rfl,E_ _ _ _ _⟩,Below.refl _ _⟩
 case round=>
  obtain⟨k,q,A2,c2,hk,rfl,rfl,I,H⟩:=hrel
  by_cases b5:k < n
  ·obtain⟨p,hl,rfl,d5,c0,c1,b6,c3,c4⟩:=(hr.below H).it b5
   have C:=fw1 (P:=P) hl;have d6:q<=1000000:=by
    have h1:=I.out.1;have h2:=L_ P (l.take k);rw[v_]at h2;omega
   generalize l[k]=x at *;have E:=HP.out x;have d7:IntKind.i64.wrap (k:Int)=(k:Int):=D_ _ o_;have key:(x.s=v/\x.k=2/\(lo:Int)<=(x.t:Int)/\(x.t:Int)<=(hi:Int)/\P x=true)\/P x=false/\((x.s==v)=false\/x.s=v/\((x.k==2)=false\/x.k=2/\(¬(lo:Int)<=(x.t:Int)\/(lo:Int)<=(x.t:Int)/\¬(x.t:Int)<=(hi:Int)))):=by
    unfold inRange at E
    by_cases h1:x.s=v
    ·by_cases h2:x.k=2
     ·by_cases h3:(lo:Int)<=(x.t:Int)
      ·by_cases h4:(x.t:Int)<=(hi:Int)
       ·exact .inl ⟨h1,h2,h3,h4,by rw[E];simp[h1,h2];omega⟩
       ·exact .inr ⟨by rw[E];simp[h1,h2];omega,.inr ⟨h1,.inr ⟨h2,.inr ⟨h3,h4⟩⟩⟩⟩
      ·exact .inr ⟨by rw[E];simp[h1,h2];omega,.inr ⟨h1,.inr ⟨h2,.inl h3⟩⟩⟩
     ·exact .inr ⟨by rw[E];simp[h2],.inr ⟨h1,.inl (by simpa using h2)⟩⟩
    ·exact .inr ⟨by rw[E];simp[h1],.inl (by simpa using h1)⟩
   clear E;obtain⟨xs,xk,J,O,Q⟩:=x;simp only at key c0 c1 b6 c3 c4
   rcases key with ⟨rfl,rfl,g1,g2,hT⟩|⟨hT,key⟩
   ·rw[if_pos hT]at C
    have a2:BoxO (wr.alloc (.cells #[.int .i64 xs,.int .i64 2,.int .u64 (J:Int),.int .u64 (O:Int),.int .i64 Q] 49)) 49 wr.heap.size (It.cells ⟨xs,2,J,O,Q⟩):=BoxO.new wr #[.int .i64 xs,.int .i64 2,.int .u64 (J:Int),.int .u64 (O:Int),.int .i64 Q] 49;have a0:=b_ wr (.cells #[.int .i64 xs,.int .i64 2,.int .u64 (J:Int),.int .u64 (O:Int),.int .i64 Q] 49);have HR:=H_ (az1 a2);have HO:=H_ (own_below I.out.2 a0);have HB:=H_ (az H a0);have HX:=H_ (show itc ((l.take k).filter P)++(It.cells ⟨xs,2,J,O,Q⟩)=itc ((l.take (k+1)).filter P) by rw[C,lq];simp[itc]);have a4:=H_ (show q+1=((l.take (k+1)).filter P).length by rw[C,d_,<-I.out.1];rfl);clear C I a2 a0 hT;go_wp2_with (at_builtin;refine iy ?_);refine bz (iq rfl (.tmp 50) (.tmp 55) _ rfl w.heap.size 49 i0 _ 5 40 underlying26 a' b0 b1 b2 rfl o_ w HB.out HB.out.size _ q (itc ((l.take k).filter P)) rfl HO.out (wr.alloc (.cells #[.int .i64 xs,.int .i64 2,.int .u64 (J:Int),.int .u64 (O:Int),.int .i64 Q] 49)).heap.size _ 1 1 (It.cells ⟨xs,2,J,O,Q⟩) rfl HR.out (fun v hv=>uj [⟨xs,2,J,O,Q⟩] v (by simpa [itc] using hv)) (q+1) _ rfl HX.out (by unfold maxLen;omega) o_ ?_);intro A3 c3 w5 h1 h2 h3 h4 h5;have H5:=H_ (c_ a4.out h1);clear h1 h3 a4 HX HR HO HB;go_wp2;go_roundw
    case rel=>exact⟨k+1,q+1,A3,c3,o_,rfl,by go_num,H5.out,h2⟩
    case measure=>simp[intOf];omega
   ·rw[if_neg (by rw[hT];simp),ak_]at C
    have H3:=H_ (show q=((l.take (k+1)).filter P).length/\wr.ownsRow w.heap.size 49 5 (.slice A2 q c2) q (itc ((l.take (k+1)).filter P)) by rw[C];exact I.out);clear C I hT
    rcases key with e1|⟨rfl,e1|⟨rfl,e1|⟨e1,e2⟩⟩⟩
    all_goals
     go_wp2;go_roundw
     case rel=>exact⟨k+1,q,A2,c2,o_,rfl,by go_num,H3.out,H⟩
     case measure=>simp[intOf];omega
  ·have U:l.take k=l:=g_ o_
   have hq:=I.out;rw[U]at hq;obtain⟨A3,c3,hv,a7,a8,Z⟩:=gz hq.2;injection hv with e1 e2 e3;subst e1 e3;have a9:=H_ (c_ hq.1 (show Its w.heap.size wr A2 q c2 (l.filter P) from ⟨Row.own hq.2,a7,a8,fun p hp=>(Z p hp).1⟩));clear hq U Z a7 a8 I;go_wp2;go_ret;exact⟨A2,q,c2,rfl,a9.out.1,a9.out.2,H⟩
variable {w:World} {X:Dw} {S:Sd} {Y:Yw} {V:Sv}
theorem nz4 (h:SvAt w X S Y V) (H:V.st.length<=1000000) (s:Int) (lo hi:Nat):
  Calls prog 80 #[.pointer (some ⟨Y.s,0,none⟩),.int .i64 s,.int .u64 (lo:Int),.int .u64 (hi:Int)] w (zy w (V.st.filter (inRange s lo hi))):=by
 have c5:=h.box.cell 5;simp only[Yw.cells,gE0,gE1]at c5;have C:=H_ (cv4 Y.A.a Y.A.n Y.A.c V.st s lo hi w (by rw[h.alen];omega) h.st.now.row);clear h;go_enter func80,ntmps80;go_wp2_with fail;refine C.out.mono ?_;rintro e I ⟨A',k,rfl,h1⟩;have E:=H_ h1;clear h1;go_wp2;go_ret;exact⟨A',k,rfl,E.out⟩
end
end Go.Proofs.YtkdbagdiplpcfaaGreatDoor
