/- Some of the texts. No conditions. -/
import Derived.Test.YtkdbagdiplpcfaaGreatDoorBunAU

set_option linter.unusedSimpArgs false
set_option linter.unusedVariables false
set_option maxRecDepth 100000
set_option maxHeartbeats 16000000
namespace Go.Proofs.YtkdbagdiplpcfaaGreatDoor
open Go.Proofs.Tryz Go Go.RowKit Go.Lib Go.Shelf
section
variable {w w1 w2:World} {X X1 X2:Dw} {S S1 S2:Sd} {Y Y1 Y2:Yw} {V V1 V2:Sv}
theorem aq1 (S:Sd) (l:List It):(St.write S l).1.load<=S.load+3:=by
 unfold St.write;split
 ·simp
 ·have h1:=Sd.gq1 S (Mn.name Mn.kTab (St.number S))
  simp only;split
  ·omega
  ·split
   ·rw[Sd.fv1]
    omega
   ·rw[Sd.ex1,Sd.fv1]
    omega
theorem pw2 (S:Sd):(St.fresh S).1.load<=S.load+3:=by
 unfold St.fresh;split
 ·simp
 ·have h1:=Sd.gq1 S (Mn.name Mn.kLog (St.number S))
  simp only;split
  ·omega
  ·rw[Sd.ex1]
   omega
theorem qk2 (d:Sd) (M:Gs) (e:Ed):(Gw.save d M e).1.load=d.load:=by
 unfold Gw.save
 repeat' split
 all_goals (try rfl)
 unfold Gw.put
 repeat' split
 all_goals simp[Sd.ex1,Sd.fv1]
theorem uy1 (S:Sd) (V:Sv) (x:Ed) (F:Sv->Sv):(St.turn S V x F).1.load<=S.load:=by
 have h1:=Sd.dj1 S;unfold St.turn St.saved;simp only
 repeat' split
 all_goals (try simp only[qk2])
 all_goals omega
theorem jk1 {w:World} {base n c size:Nat} {e:TypeId} {A:Option Addr} {xs:List Value} (h:w.ownsRow base e size (.slice A n c) n xs):A=none->n=0/\c=0:=by
 intro C;subst C
 rcases h.2 with ⟨h1,h2⟩|⟨g,cap,cur,h1,_⟩
 ·injection h1 with _ q1 E
  exact⟨q1,E⟩
 ·injection h1 with q _ _
  cases q
theorem Way.tabs {w0:World} {X0:Dw} {S0:Sd} (h:SvAt w0 X0 S0 Y V) (k:Way w0 X0 Y V w X S) {G:List Nat} (C:∀g∈G,g∈XY X Y\/w0.heap.size<=g):vz G w fun W=>fy1 W Y.T Y.q V.tabs:=
 h.tabs.step k.c (fun g E=>by
  rcases C g E with q|q
  ·exact k.f g q
  ·exact .inr q)
theorem xw3 {w:World} {e:TypeId} {g:Nat} {xs:List Value} (h:BoxO w e g xs) (E:xs.length=3):Row w.heap.size w (some ⟨g,0,none⟩) 1 3 xs:=⟨o_,fun j hj=>⟨_,rfl,h.lt,by
 have h1:=h.cell j;have C:(⟨g,0,none⟩:Addr).add j=⟨g,j,none⟩:=by
  simp[Addr.add];omega
 rw[C,h1];exact h_ hj⟩⟩
theorem tz3 {w:World} {e:TypeId} {g:Nat} {xs:List Value} (h:BoxO w e g xs) (E:xs.length=2):Row w.heap.size w (some ⟨g,0,none⟩) 1 2 xs:=⟨o_,fun j hj=>⟨_,rfl,h.lt,by
 have h1:=h.cell j;have C:(⟨g,0,none⟩:Addr).add j=⟨g,j,none⟩:=by
  simp[Addr.add];omega
 rw[C,h1];exact h_ hj⟩⟩
def FlB (gt gs s:Nat) (AF:Option Addr) (nf:Nat) (add:List (Int×Int)) (T:Sl) (q:List Tq) (ts:List ((Int×Int)×List (List It))) (W:World):Prop:=
 BoxO W 64 gt [.slice T.a T.n T.c]/\BoxO W 37 gs [.pointer (some ⟨s,0,none⟩)]/\Row W.heap.size W AF nf 2 (dw add)/\fy1 W T q ts
structure FlM (w:World) (X:Dw) (Y:Yw) (V:Sv) (gx gt:Nat) (R:Sd×Sv×Nat) (l0:Nat) (wx:World) (S2:Sd) (X2:Dw) (AF:Option Addr) (nf cf:Nat) (add:List (Int×Int)) (T:Sl) (q:List Tq) (ts:List ((Int×Int)×List (List It))):Prop where
 way:Way w X Y V wx X2 S2
 box:BoxO wx 131 gx [.slice none 0 0,.slice AF nf cf,.int .i64 0,.int .u64 0,.int .u64 0,.int .u64 0,.int .u64 0]
 nf1:nf<=1
 fix:vz (gx::XY X2 Y) wx (FlB gt w.heap.size Y.s AF nf add T q ts)
 res:R=St.by1 S2 V add ts
 load:S2.load<=l0+3
 out:∀a,AF=some a->a.block∉XY X2 Y/\a.block≠gx/\a.block < wx.heap.size
 gxo:gx∉XY X2 Y
 gtx:gt≠gx/\w.heap.size<=gt/\gt < wx.heap.size/\gt∉XY X2 Y
theorem kz7 {P S a oi v} (h:Hv P S a oi v:=by intro w H;(obtain⟨q0,q3,q5⟩:=w4.out _ H);go_simp;try (with_reducible rfl)):Hv P S a oi v:=h
theorem ww1 (h:SvAt w X S Y V) (x0:Tb.good (St.live V)=true) (x1:∀x∈V.mem,x.fit) (L4:V.mem.length<=400000) (L5:V.st.length<=2000) (E7:V.M.v.files.length<=40) (J0:1<=V.M.v.log/\V.M.v.log<=1073741824) (E8:V.M.count<=1000000000) (E9:V.M.name.length<=1000) (L6:S.load<=100000000000):
  Calls prog 14 #[.pointer (some ⟨Y.s,0,none⟩)] w (gx1 X Y w (St.flush S V)):=by
 obtain⟨R,C⟩:=n_ (St.flush S V);rw[<-C];unfold St.flush at C;have j9:=b_ w (.cells #[.pointer (some ⟨Y.s,0,none⟩)] 37);have a9:=BoxO.new w #[.pointer (some ⟨Y.s,0,none⟩)] 37;have a':=h.lt;generalize hW:w.alloc (.cells #[.pointer (some ⟨Y.s,0,none⟩)] 37)=W at *;have k1:Way w X Y V W X S:=(Way.start h).below j9;have s0:=a9.cell 0;have j':=k1.at_.box.cell 10;have c2:=k1.at_.box.cell 2;have c4:=k1.at_.box.cell 4;simp only[Yw.cells,gE0,gE1]at j' c2 c4 s0;have HX:=H_ a';have HB:=H_ a9
 cases ho:V.only with
 |true=>
  rw[if_pos ho]at C;rw[ho]at j';have HZ:Hid (gx1 X Y w R (.returned (.int .i64 14)) W):=H_ (by rw[C];exact⟨rfl,k1.upd⟩);clear C ho h a' a9 k1;go_enter func14,ntmps14;go_wp2;go_ret;exact HZ.out
 |false=>
 rw[if_neg (by simp[ho])]at C;rw[ho]at j';have x4:=rv2 Y.g X.d V.nm V.sz V.ct W k1.at_.log;have k0:=H_ x4;clear x4
 by_cases e':V.ct=0
 ·rw[if_pos e']at C
  have e0:((V.ct:Int)==0)=true:=by simp[e']
  have HZ:Hid (gx1 X Y w R (.returned (.int .i64 0)) W):=H_ (by rw[C];exact⟨rfl,k1.upd⟩);clear C ho h a' a9 k1 e';go_enter func14,ntmps14;go_wp2_with fail
  refine m_ k0 ?_
  rintro e w2 ⟨rfl,rfl⟩;go_wp2;go_ret;exact HZ.out
 rw[if_neg e']at C;have e0:((V.ct:Int)==0)=false:=by simp;omega
 have x5:=h.tlen
 by_cases p':30<=Y.T.n
 ·rw[if_pos o_]at C
  have e1:((30:Int)<=(Y.T.n:Int))=True:=eq_true o_;have HZ:Hid (gx1 X Y w R (.returned (.int .i64 65)) W):=H_ (by rw[C];exact⟨rfl,k1.upd⟩);clear C ho h a' a9 k1 e' x5 p';go_enter func14,ntmps14;go_wp2_with fail
  refine m_ k0 ?_
  rintro e w2 ⟨rfl,rfl⟩;go_wp2;go_ret;exact HZ.out
 rw[if_neg o_]at C;have e1:((30:Int)<=(Y.T.n:Int))=False:=eq_false o_;obtain⟨hq,hrow,F0,F1,x6,F2⟩:=h.tabs.now;have m8:Y.s < w.heap.size:=h.box.lt;have m9:w.heap.size < W.heap.size:=a9.lt;have k3:=b_ W (.cells #[.slice none 0 0,.slice none 0 0,.int .i64 0,.int .u64 0,.int .u64 0,.int .u64 0,.int .u64 0] 131);have q7:=BoxO.new W #[.slice none 0 0,.slice none 0 0,.int .i64 0,.int .u64 0,.int .u64 0,.int .u64 0,.int .u64 0] 131;have g8:=a9.below k3;have k2:=k1.below k3;have x7:W.heap.size < (W.alloc (.cells #[.slice none 0 0,.slice none 0 0,.int .i64 0,.int .u64 0,.int .u64 0,.int .u64 0,.int .u64 0] 131)).heap.size:=q7.lt;have t0:=g8.cell 0;have t4:=k2.at_.box.cell 4;simp only[Yw.cells,gE0,gE1]at t0 t4;have d5:Below w.heap.size w (W.alloc (.cells #[.slice none 0 0,.slice none 0 0,.int .i64 0,.int .u64 0,.int .u64 0,.int .u64 0,.int .u64 0] 131)):=j9.trans (k3.mono j9.size);have x8:=xy1 Y.T.a Y.T.n Y.T.c Y.q (W.alloc (.cells #[.slice none 0 0,.slice none 0 0,.int .i64 0,.int .u64 0,.int .u64 0,.int .u64 0,.int .u64 0] 131)) o_ x6 ((hrow.below d5).up d5.size);have x9:=H_ x8;have HR:=H_ C;have HH:=H_ h;have F5:=H_ k2;have HQ:=H_ hq;have k6:=H_ q7;have F6:=H_ g8;have F7:=H_ (c_ d5 (c_ m8 (c_ m9 x7)));have y0:=H_ p';clear C h ho e' x5 a' a9 x8 hrow F0 F1 F2 x6 k1 k2 hq q7 g8 d5 m8 m9 x7 k3 p' HB;go_enter func14,ntmps14;go_wp2_with fail
 refine m_ k0 ?_
 rintro e w2 ⟨rfl,F8⟩;obtain rfl:=F8.symm;go_wp2_with fail;clear t0 t4;generalize F9:W.alloc (.cells #[.slice none 0 0,.slice none 0 0,.int .i64 0,.int .u64 0,.int .u64 0,.int .u64 0,.int .u64 0] 131)=W2 at *
 refine m_ x9 ?_
 rintro e U ⟨A3,c3,rfl,q8,q9⟩;clear hW F9 s0 j' c2 c4 x9 k0;have g9:=b_ U (.cells #[.slice A3 Y.T.n c3] 64);have q':=BoxO.new U #[.slice A3 Y.T.n c3] 64;have d6:Below W2.heap.size W2 (U.alloc (.cells #[.slice A3 Y.T.n c3] 64)):=az q9 g9;have y3:=own_below q8 g9;have F':Hid (∀g,(Value.slice A3 Y.T.n c3).ownBlock=some g->W2.heap.size<=g/\g < U.heap.size):=H_ (fun g e=>q8.lt g e);have y4:U.heap.size < (U.alloc (.cells #[.slice A3 Y.T.n c3] 64)).heap.size:=q'.lt;have m':=q9.size;generalize G0:U.alloc (.cells #[.slice A3 Y.T.n c3] 64)=W4 at *;have k4:=F5.out.below d6;have d7:=F6.out.below d6;have n0:=k6.out.below d6;have t0:=d7.c0;have y6:∀O,Below W4.heap.size W4 O->Calls prog 61 #[.pointer (some ⟨Y.mm,0,none⟩)] O (dw1 O V.mem):=fun O hb=>by
  have h5:=(k4.below hb).at_;have:=kj3 h5.mem (by have q1:=xw2 h5.mem.sk;rw[h5.its]at q1;omega);rw[h5.its]at this;exact this
 have y7:∀O,Below W4.heap.size W4 O->Calls prog 37 #[.slice Y.A.a Y.A.n Y.A.c] O fun e w'=>∃g b,e=.returned (.func (.func 102) #[] #[.pointer (some ⟨g,0,none⟩)])/\HsAt w' g b V.st/\Below O.heap.size O w':=fun O hb=>by
  have h5:=(k4.below hb).at_;exact xz4 Y.A.a Y.A.n Y.A.c V.st O (by rw[h5.alen];omega) h5.st.now.row
 have y8:∀O,Below W4.heap.size W4 O->O.cell? ⟨w.heap.size,0,none⟩=some (.pointer (some ⟨Y.s,0,none⟩))/\O.cell? ⟨Y.s,3,none⟩=some (.pointer (some ⟨Y.mm,0,none⟩))/\O.cell? ⟨Y.s,5,none⟩=some (.slice Y.A.a Y.A.n Y.A.c):=fun O hb=>by
  have h5:=(k4.below hb).at_.box;have q3:=h5.cell 3;have q5:=h5.cell 5;simp only[Yw.cells,gE0,gE1]at q3 q5;exact⟨(d7.below hb).cell 0,q3,q5⟩
 have r0:∀(A5:Option Addr) (k5 c5 g6 b6:Nat) (O:World),k5<=1000000->Row O.heap.size O A5 k5 5 (itc V.mem)->HsAt O g6 b6 V.st->Calls prog 35 #[.slice A5 k5 c5,.func (.func 102) #[] #[.pointer (some ⟨g6,0,none⟩)]] O (dw1 O (St.live V)):=fun A5 k5 c5 g6 b6 O hk hr hh=>keep_any 102 (fun _ _=>rfl) #[.pointer (some ⟨g6,0,none⟩)] (fun x=>decide (x∈V.st)) A5 k5 c5 V.mem O hk hr (fun x w7 l2=>py3 x g6 b6 V.st w7 (hh.below l2));have y9:=H_ r0;have y':=H_ y6;have z0:=H_ y7;have w4:=H_ y8;have z3:=H_ k4;have n6:=H_ d7;have n7:=H_ n0;have z4:=H_ y3;have z5:=H_ q';have r4:=H_ (c_ y4 m');clear y6 y7 y8 r0 k4 d7 n0 y3 q' y4 m' g9 q8 q9;go_wp2_with fail;clear G0 t0;refine w_h W4 fun H=>?_;refine w_v 0 H ?_ (k:=kz7);go_simp;refine w_v 1 H ?_ (k:=kz7);go_simp;refine w_v 2 H ?_ (k:=kz7);go_simp;refine w_v 3 H ?_ (k:=kz7);go_simp;refine w_v 5 H ?_ (k:=kz7);go_simp;refine w_v 6 H ?_ (k:=kz7);go_simp;refine w_v 7 H ?_ (k:=kz7);go_simp;refine w_v 8 H ?_ (k:=kz7);go_simp;refine w_r 4 fun K hK=>?_;go_simp
 with_reducible refine(y'.out _ H).mono ?_
 rintro e w5 ⟨A5,k5,c5,rfl,r5,z6,z7⟩;replace r5:=H_ r5;go_simp;refine hK.out _ _ (az H z7) ?_;clear H hK K;intro H;go_simp;refine w_r 9 fun K hK=>?_;go_simp
 with_reducible refine(z0.out _ H).mono ?_
 rintro e w6 ⟨g6,b6,rfl,z8,l3⟩;go_simp;refine hK.out _ _ (az H l3) ?_;clear H hK K;intro H;go_simp;refine w_r 10 fun K hK=>?_;go_simp
 with_reducible refine(y9.out A5 k5 c5 g6 b6 w6 (by have:=r5.out;omega) ((z6.row.below l3).up l3.size) z8).mono ?_
 rintro e w7 ⟨A7,k7,c7,rfl,b8,z9,l2⟩;replace b8:=H_ b8;go_simp;refine hK.out _ _ (az H l2) ?_;clear H hK K;intro H;go_simp;refine w_v 11 H ?_ (k:=kz7);go_simp;refine w_d ?_;have r6:=z3.out.below H;have n9:=n6.out.below H;have b9:=n7.out.below H;have n':=z5.out.below H;have h7:=own_below z4.out H;have z':W2.heap.size<=U.heap.size/\U.heap.size < W4.heap.size/\W4.heap.size<=w7.heap.size:=⟨r4.out.2,r4.out.1,H.size⟩;have l4:∀g∈XY X Y,g < w.heap.size:=HX.out;have A0:=F7.out;have f6:vz (W.heap.size::XY X Y) w7 (FlB U.heap.size w.heap.size Y.s none 0 [] ⟨A3,Y.T.n,c3⟩ Y.q V.tabs):=fun O c'=>by
  have n1:U.heap.size∉W.heap.size::XY X Y:=fun I=>by
   rcases f_.1 I with q|q
   ·omega
   ·have:=l4 _ q
    omega
  have n2:w.heap.size∉W.heap.size::XY X Y:=fun I=>by
   rcases f_.1 I with q|q
   ·omega
   ·have:=l4 _ q
    omega
  obtain⟨P',c0,q1,q2,q3,q4⟩:=gz h7;injection q1 with q1 _ qc;subst q1 qc;have l5:=(Way.tabs HH.out r6 (G:=W.heap.size::XY X Y) (fun g E=>by
   rcases f_.1 E with q|q
   ·exact .inr o_
   ·exact .inl q)) O c'
  exact⟨n'.chg c' n1,n9.chg c' n2,Row.nil_,HQ.out,(kz c' (Row.own h7) l_ (fun j _ a Q I=>by
   have z1:=(q4 a Q).1
   rcases f_.1 I with q|q
   ·omega
   ·have:=l4 _ q
    omega)).up c'.size,q2,q3,jk1 h7,l5.2.2.2.2.2⟩
 have a6:=H_ r6;have h9:=H_ h7;have d8:=H_ f6;have h':=H_ b9;have r7:=H_ z9;have i1:=H_ (c_ z' A0);have r8:Hid (∀g,(Value.slice A3 Y.T.n c3).ownBlock=some g->W2.heap.size<=g/\g < U.heap.size):=F';have A1:=H_ b8;clear r6 h7 f6 b9 n9 n' z9 H z' l4 A0 l2 z8 z6 z7 l3 y9 y' z0 w4 z3 n6 n7 z4 z5 r4 b8 d6 j9;go_upto_if 50 with (fail)
 go_cut [] (fun wx=>∃S2 X2 AF nf cf add T q ts,FlM w X Y V W.heap.size U.heap.size R S.load wx S2 X2 AF nf cf add T q ts)
 case first=>
  have b8:=A1.out.out
  by_cases hz:k7=0
  ·have e2:(0 < k7)=False:=eq_false o_
   have i2:St.live V=[]:=ag_.1 o_;have C:=HR.out;rw[if_pos i2]at C;have HM:Hid (FlM w X Y V W.heap.size U.heap.size R S.load w7 S X none 0 0 [] ⟨A3,Y.T.n,c3⟩ Y.q V.tabs):=H_ ⟨a6.out,h'.out,o_,d8.out,C,o_,(fun a Q=>by cases Q),(fun Z=>by
    have:=i1.out;have:=HX.out _ Z;omega),by
    have:=i1.out;refine⟨o_,o_,o_,fun I=>?_⟩;have:=HX.out _ I;omega⟩
   clear C i2 b8 e2;subst hz;go_wp2_with fail
   go_meet
   case rel=>exact⟨_,_,_,_,_,_,_,_,_,HM.out⟩
  ·have r0:0 < k7:=o_
   have t0:=d8.out.now.2.1.c0;have i2:St.live V≠[]:=fun e=>hz (by rw[b8,e];rfl);have C:=HR.out;rw[if_neg i2]at C;have G2:(St.live V).length<=2000:=by
    have q:=x0;unfold Tb.good at q;simp only[G_,decide_eq_true_eq]at q;exact q.1.1
   have f9:=ry2 a6.out.at_ A7 k7 c7 (St.live V) o_ r7.out.nc r7.out.row (fun x hx=>x1 x ((P_.1 hx).1)) x0 0 o_;have r9:=oq1 S;obtain⟨n,hn⟩:=n_ (St.number S);rw[<-hn]at f9 C r9;obtain⟨a,Q⟩:=n_ (St.write S (St.live V));have A9:a.1.load<=S.load+3:=by rw[Q];exact aq1 S (St.live V)
   rw[<-Q]at f9 C;obtain⟨S8,r'⟩:=a;unfold dj3 at f9;simp only at f9 C A9;have G4:=H_ f9;have A':=H_ C;clear f9 C Q hn G2 i2 hz b8;go_wp2_with fail
   refine m_ G4 ?_
   rintro e J ⟨va,vb,vp,X8,rfl,e8,B0,b',l9,d1⟩;have k8:Way w X Y V J X8 S8:=⟨B0,e8.trans a6.out.d,a6.out.c.trans b' a6.out.f,fun g E=>by
    rcases l9 g E with q|q
    ·exact .inl q
    ·exact .inr (j_ a6.out.c.size q)⟩
   by_cases h8:r'=0
   ·subst h8
    obtain⟨f,G6,B1,G7,l5⟩:=d1 rfl;have B2:=B1.symm;have G8:=H_ l5;clear d1 l5 B1;subst G6 G7 B2;have C:=A'.out;rw[if_neg s_]at C;have B3:=d8.out.step (G:=W.heap.size::XY X8 Y) (c:=b'.mono fun g E=>.inl (e_ _ E)) (fun g E=>by
     rcases f_.1 E with q|q
     ·exact .inl (by rw[q];exact i_)
     ·exact(l9 g q).imp (e_ _) id)
    have hz:=i1.out;have i3:∀g,w.heap.size<=g->g < w7.heap.size->g∉XY X Y/\g∉XY X8 Y:=fun g h1 h2=>by
     have z1:g∉XY X Y:=fun I=>by
      have:=HX.out g I;omega
     refine⟨z1,fun I=>?_⟩
     rcases l9 g I with q|q
     ·exact z1 q
     ·omega
    have B4:=h'.out.chg b' (i3 _ o_ o_).1;have G9:=jy h9.out b' (fun g e I=>by
     have z1:=(h9.out.lt g e).1;have:=HX.out g I;omega)
    have B5:=b_ J (.cells #[.int .i64 0,.int .i64 n,.pointer (some ⟨f,0,none⟩)] 92);have G':=BoxO.new J #[.int .i64 0,.int .i64 n,.pointer (some ⟨f,0,none⟩)] 92;have i4:=(Below.refl (J.alloc (.cells #[.int .i64 0,.int .i64 n,.pointer (some ⟨f,0,none⟩)] 92)).heap.size (J.alloc (.cells #[.int .i64 0,.int .i64 n,.pointer (some ⟨f,0,none⟩)] 92))).alloc l_ (.cells #[.int .i64 0,.int .i64 n] 89);have B6:=BoxO.new (J.alloc (.cells #[.int .i64 0,.int .i64 n,.pointer (some ⟨f,0,none⟩)] 92)) #[.int .i64 0,.int .i64 n] 89;have d2:=az B5 i4;have d3:=B4.below d2;have B7:=G'.below i4;have B8:=B3.now.1.below d2;have cx:Chg [W.heap.size] ((J.alloc (.cells #[.int .i64 0,.int .i64 n,.pointer (some ⟨f,0,none⟩)] 92)).alloc (.cells #[.int .i64 0,.int .i64 n] 89)) (((J.alloc (.cells #[.int .i64 0,.int .i64 n,.pointer (some ⟨f,0,none⟩)] 92)).alloc (.cells #[.int .i64 0,.int .i64 n] 89)).setCell ⟨W.heap.size,1,none⟩ (.slice (some ⟨J.heap.size+1,0,none⟩) 1 1)):=(Chg.refl _ _).setCell _ (.inl s_);have J5:J.heap.size≠W.heap.size:=by
     have:=b'.size;omega
    have d9:=B7.chg cx (by simp;omega);have B9:=B6.chg cx (by
     have:=b'.size;simp;omega)
    have o1:=B8.chg cx (by simp;omega);have s3:=d3.store 1 (.slice (some ⟨J.heap.size+1,0,none⟩) 1 1);have a1:=(Below.refl (((J.alloc (.cells #[.int .i64 0,.int .i64 n,.pointer (some ⟨f,0,none⟩)] 92)).alloc (.cells #[.int .i64 0,.int .i64 n] 89)).setCell ⟨W.heap.size,1,none⟩ (.slice (some ⟨J.heap.size+1,0,none⟩) 1 1)).heap.size (((J.alloc (.cells #[.int .i64 0,.int .i64 n,.pointer (some ⟨f,0,none⟩)] 92)).alloc (.cells #[.int .i64 0,.int .i64 n] 89)).setCell ⟨W.heap.size,1,none⟩ (.slice (some ⟨J.heap.size+1,0,none⟩) 1 1))).alloc l_ (.cells #[.int .i64 0,.int .i64 n,.pointer (some ⟨f,0,none⟩)] 92);have o2:=xw3 (BoxO.new (((J.alloc (.cells #[.int .i64 0,.int .i64 n,.pointer (some ⟨f,0,none⟩)] 92)).alloc (.cells #[.int .i64 0,.int .i64 n] 89)).setCell ⟨W.heap.size,1,none⟩ (.slice (some ⟨J.heap.size+1,0,none⟩) 1 1)) #[.int .i64 0,.int .i64 n,.pointer (some ⟨f,0,none⟩)] 92) rfl;rw[show (((J.alloc (.cells #[.int .i64 0,.int .i64 n,.pointer (some ⟨f,0,none⟩)] 92)).alloc (.cells #[.int .i64 0,.int .i64 n] 89)).setCell ⟨W.heap.size,1,none⟩ (.slice (some ⟨J.heap.size+1,0,none⟩) 1 1)).heap.size=J.heap.size+1+1 from by simp]at o2;have B':Chg [W.heap.size] J ((((J.alloc (.cells #[.int .i64 0,.int .i64 n,.pointer (some ⟨f,0,none⟩)] 92)).alloc (.cells #[.int .i64 0,.int .i64 n] 89)).setCell ⟨W.heap.size,1,none⟩ (.slice (some ⟨J.heap.size+1,0,none⟩) 1 1)).alloc (.cells #[.int .i64 0,.int .i64 n,.pointer (some ⟨f,0,none⟩)] 92)):=((Chg.of_below d2 [W.heap.size]).trans cx (fun g E=>.inl E)).trans (Chg.of_below a1 []) (fun g E=>by cases E);have C0:=jy G9 B' (fun g e I=>by
     have z1:=(h9.out.lt g e).1;have z2:=a_.1 I;omega)
    have J7:∀g,(Value.slice A3 Y.T.n c3).ownBlock=some g->W2.heap.size<=g/\g < w7.heap.size:=fun g e=>h9.out.lt g e;have C1:=o1.below a1;have s4:=s3.below a1;have o3:=B9.below a1;have y1:=d3.c1;have z1:=d3.free 1;have u0:=d9.c0;have u1:=d9.c1;have u2:=d9.c2;have v0:=o1.c0;obtain⟨i0,H0,H1,C2,H2⟩:=info_parts dq2;have H3:J.heap.size < ((((J.alloc (.cells #[.int .i64 0,.int .i64 n,.pointer (some ⟨f,0,none⟩)] 92)).alloc (.cells #[.int .i64 0,.int .i64 n] 89)).setCell ⟨W.heap.size,1,none⟩ (.slice (some ⟨J.heap.size+1,0,none⟩) 1 1)).alloc (.cells #[.int .i64 0,.int .i64 n,.pointer (some ⟨f,0,none⟩)] 92)).heap.size:=d9.below a1|>.lt
    have J8:=b'.size;have H4:=H_ C;clear C;go_wp2_with (at_builtin;refine iy ?_);refine bz (cy1 rfl (.tmp 64) (.tmp 66) _ rfl W2.heap.size 92 i0 _ 3 24 underlying64 H0 H1 C2 H2 rfl o_ ((((J.alloc (.cells #[.int .i64 0,.int .i64 n,.pointer (some ⟨f,0,none⟩)] 92)).alloc (.cells #[.int .i64 0,.int .i64 n] 89)).setCell ⟨W.heap.size,1,none⟩ (.slice (some ⟨J.heap.size+1,0,none⟩) 1 1)).alloc (.cells #[.int .i64 0,.int .i64 n,.pointer (some ⟨f,0,none⟩)] 92)) b0_ o_ (.slice A3 Y.T.n c3) Y.T.n (hcells Y.q) rfl C0 ((((J.alloc (.cells #[.int .i64 0,.int .i64 n,.pointer (some ⟨f,0,none⟩)] 92)).alloc (.cells #[.int .i64 0,.int .i64 n] 89)).setCell ⟨W.heap.size,1,none⟩ (.slice (some ⟨J.heap.size+1,0,none⟩) 1 1)).alloc (.cells #[.int .i64 0,.int .i64 n,.pointer (some ⟨f,0,none⟩)] 92)).heap.size _ 1 1 o_ [.int .i64 0,.int .i64 n,.pointer (some ⟨f,0,none⟩)] rfl o2 (fun v hv=>xv1 [(((0,n),Tb.rows (St.live V)),f)] v (by simpa [hcells] using hv)) (Y.T.n+1) (hcells (Y.q++[(((0,n),Tb.rows (St.live V)),f)])) rfl (by simp[hcells]) (by have:=y0.out;unfold maxLen;omega) (by have:=y0.out;omega) ?_);intro A4 c4 f' p1 p2 p3 p4 p5 p6;have hO:∀g∈(Value.slice A3 Y.T.n c3).ownBlock.toList,W2.heap.size<=g/\g < U.heap.size:=fun g E=>r8.out g (a7_.1 E);have i5:Chg (Value.slice A3 Y.T.n c3).ownBlock.toList ((((J.alloc (.cells #[.int .i64 0,.int .i64 n,.pointer (some ⟨f,0,none⟩)] 92)).alloc (.cells #[.int .i64 0,.int .i64 n] 89)).setCell ⟨W.heap.size,1,none⟩ (.slice (some ⟨J.heap.size+1,0,none⟩) 1 1)).alloc (.cells #[.int .i64 0,.int .i64 n,.pointer (some ⟨f,0,none⟩)] 92)) f':=Chg.qy p3 (fun b e=>by rw[e];exact a_.2 rfl);have s7:=i1.out;have d':=C1.chg i5 (fun I=>by
     have:=hO _ I;omega)
    have ct:Chg [U.heap.size] f' (f'.setCell ⟨U.heap.size,0,none⟩ (.slice A4 (Y.T.n+1) c4)):=(Chg.refl _ _).setCell _ (.inl s_);have a2:∀g∈[W.heap.size,U.heap.size] ++(Value.slice A3 Y.T.n c3).ownBlock.toList,w.heap.size<=g/\g < w7.heap.size:=fun g E=>by
     rcases k_.1 E with q|q
     ·simp only[f_,ct_,or_false]at q
      omega
     ·have:=hO g q
      omega
    have l':Chg ([W.heap.size,U.heap.size] ++(Value.slice A3 Y.T.n c3).ownBlock.toList) J (f'.setCell ⟨U.heap.size,0,none⟩ (.slice A4 (Y.T.n+1) c4)):=
     (((B'.mono (G:=[W.heap.size,U.heap.size] ++(Value.slice A3 Y.T.n c3).ownBlock.toList) fun g E=>.inl (by rw[a_.1 E];simp)).trans i5 (fun g E=>.inl (p_ _ E)))).trans ct (fun g E=>.inl (by rw[a_.1 E];simp))
    have s8:Way w X Y V (f'.setCell ⟨U.heap.size,0,none⟩ (.slice A4 (Y.T.n+1) c4)) X8 S8:=Way.scr HH.out k8 (fun g E=>⟨(a2 g E).1,(i3 g (a2 g E).1 (a2 g E).2).2⟩) l';have i6:=(s4.chg i5 (fun I=>by
     have:=hO _ I;omega)).chg ct (fun I=>by
     have:=a_.1 I;omega)
    have i7:=d'.store 0 (.slice A4 (Y.T.n+1) c4);have e9:(J.alloc (.cells #[.int .i64 0,.int .i64 n,.pointer (some ⟨f,0,none⟩)] 92)).heap.size=J.heap.size+1:=by simp
    have C3:((((J.alloc (.cells #[.int .i64 0,.int .i64 n,.pointer (some ⟨f,0,none⟩)] 92)).alloc (.cells #[.int .i64 0,.int .i64 n] 89)).setCell ⟨W.heap.size,1,none⟩ (.slice (some ⟨J.heap.size+1,0,none⟩) 1 1)).alloc (.cells #[.int .i64 0,.int .i64 n,.pointer (some ⟨f,0,none⟩)] 92)).heap.size=J.heap.size+3:=by simp
    rw[e9]at o3;have i8:=(o3.chg i5 (fun I=>by
     have:=hO _ I;omega)).chg ct (fun I=>by
     have:=a_.1 I;omega)
    have o4:=k8.at_.lt;have s9:∀a,A4=some a->(W2.heap.size<=a.block/\a.block < U.heap.size)\/a.block=J.heap.size+3:=fun a Q=>by
     obtain⟨P',c0,q1,q2,q3,q4⟩:=gz p1;injection q1 with q1 _ qc;subst q1;obtain⟨_,_,s1,s2⟩:=q4 a Q;subst Q;obtain⟨ab,ao,N5⟩:=a;simp only at s1 s2;subst s1 s2
     rcases p6 with p6|p6
     ·exact .inl (r8.out ab (by rw[<-p6];simp[Value.ownBlock]))
     ·right
      rw[C3]at p6;simpa [Value.ownBlock] using p6
    have i9:=B3.now.2.1.chg l' (fun I=>by
     rcases k_.1 I with q|q
     ·simp only[f_,ct_,or_false]at q
      omega
     ·have:=hO _ q
      omega)
    have m0:∀g,w.heap.size<=g->g < w7.heap.size->g≠W.heap.size->g∉W.heap.size::XY X8 Y:=fun g h1 h2 h3 I=>by
     rcases f_.1 I with q|q
     ·exact h3 q
     ·exact(i3 g h1 h2).2 q
    have m1:∀g,J.heap.size<=g->g∉W.heap.size::XY X8 Y:=fun g h1 I=>by
     rcases f_.1 I with q|q
     ·omega
     ·have:=o4 g q
      omega
    have hM:FlM w X Y V W.heap.size U.heap.size R S.load (f'.setCell ⟨U.heap.size,0,none⟩ (.slice A4 (Y.T.n+1) c4)) S8 X8 (some ⟨J.heap.size+1,0,none⟩) 1 1 [(0,n)] ⟨A4,Y.T.n+1,c4⟩ (Y.q++[(((0,n),Tb.rows (St.live V)),f)]) (V.tabs++[((0,n),Tb.rows (St.live V))]):=by
     refine⟨s8,i6,y_ _,fun O c'=>⟨i7.chg c' (m0 _ o_ o_ o_),i9.chg c' (m0 _ o_ o_ o_),tz3 (i8.chg c' (m1 _ o_)) rfl,by simp[HQ.out],?_,p4,p5,jk1 p1,fun p hp=>?_⟩,H4.out,A9,fun a Q=>?_,(i3 _ o_ o_).2,?_⟩
     ·refine(kz c' ((kz ct (Row.own p1) l_ (fun j _ a Q I=>?_)).up ct.size) l_ (fun j _ a Q=>?_)).up c'.size
      ·have q1:=a_.1 I
       rcases s9 a Q with q|q<;>omega
      ·rcases s9 a Q with q|q
       ·exact m0 _ o_ o_ o_
       ·exact m1 _ o_
     ·rcases k_.1 hp with q|q
      ·exact(Way.tabs HH.out s8 (G:=W.heap.size::XY X8 Y) (fun g E=>by
        rcases f_.1 E with q|q
        ·exact .inr o_
        ·exact .inl q) O c').2.2.2.2.2 p q
      ·rw[a_.1 q]
       refine G8.out ([W.heap.size,U.heap.size] ++(Value.slice A3 Y.T.n c3).ownBlock.toList++XY X8 Y) (fun g E=>?_) O ((l'.mono fun g E=>.inl (x_ _ E)).trans c' (fun g E=>?_))
       ·rcases k_.1 E with q|q
        ·exact .inr (a2 g q).2
        ·exact .inl q
       ·rcases f_.1 E with q|q
        ·exact .inl (by rw[q];simp)
        ·exact .inl (p_ _ q)
     ·injection Q with Q
      subst Q;have q1:=m1 (J.heap.size+1) o_;exact⟨fun I=>q1 (e_ _ I),fun e=>q1 (by rw[show J.heap.size+1=W.heap.size from e];exact i_),i8.lt⟩
     ·exact⟨o_,o_,i7.lt,fun I=>(i3 _ o_ o_).2 I⟩
    have HM:=H_ hM;have v1:=d'.c0;have v2:=d'.free 0;clear hM s9 i9 m0 m1 i8 i7 i6 s8 l' a2 ct d' i5 hO o4 p1 p2 p3 p4 p5 p6 e9 C3 s7;go_wp2_with fail
    go_meet
    case rel=>exact⟨_,_,_,_,_,_,_,_,_,HM.out⟩
   ·have e3:((r':Int)==0)=false:=by simp;omega
    have C:=A'.out;rw[if_pos h8]at C;have HZ:Hid (∀w',Below J.heap.size J w'->gx1 X Y w R (.returned (.int .i64 (r':Int))) w'):=H_ fun w' hb=>by
     rw[C];exact⟨rfl,(k8.below hb).upd⟩
    have C4:=b_ J (.cells #[.int .i64 va,.int .i64 vb,.pointer vp] 92);have HY:=H_ (HZ.out _ C4);clear C h8 d1 k8 B0 b' l9 e8 C4 HZ;go_wp2;go_ret;exact HY.out
   all_goals omega
 case rest=>
  obtain⟨S2,X2,AF,nf,cf,add,T,q,ts,I⟩:=hcut;have H5:=I.load;have N8:=I.nf1;have g0:=pw2 S2;have t0:=I.fix.now.2.1.c0;have g1:=dz4 I.way.at_ o_;have r9:=oq1 S2;have C:=I.res;unfold St.by1 at C;obtain⟨n,hn⟩:=n_ (St.number S2);rw[<-hn]at g1 C r9;obtain⟨a,Q⟩:=n_ (St.fresh S2);rw[<-Q]at g1 C g0;obtain⟨S5,s'⟩:=a;unfold ov5 at g1;simp only at g1 C g0;have C6:=H_ g1;have m2:=H_ C;have HM:=H_ I;have s7:=i1.out;clear g1 C Q hn I A1 r7 d8 h' h9 a6 HR r8;go_wp2_with fail
  refine m_ C6 ?_
  rintro e w5 ⟨p5,n5,X5,rfl,e5,t3,g2,i',d1⟩;have I:=HM.out;have k5:Way w X Y V w5 X5 S5:=⟨t3,e5.trans I.way.d,I.way.c.trans g2 I.way.f,fun g E=>by
   rcases i' g E with q|q
   ·exact I.way.f g q
   ·exact .inr (j_ I.way.c.size q)⟩
  have a4:=b_ w5 (.cells #[.pointer p5] 62);have t5:=BoxO.new w5 #[.pointer p5] 62
  by_cases h5:s'=0
  ·subst h5
   obtain⟨g,H6,C7,t6,C8,C9⟩:=d1 rfl;have C':=C7.symm;clear d1 C7;subst H6 C';have C:=m2.out;rw[if_neg s_]at C;have o5:W.heap.size < wc.heap.size:=I.box.lt;have j0:W.heap.size∉XY X2 Y:=I.gxo;have j1:W.heap.size∉XY X5 Y:=fun Z=>by
    rcases i' _ Z with q|q
    ·exact j0 q
    ·omega
   have j2:=k5.at_.lt;have e4:=(I.box.chg g2 j0).below a4;have cx:Chg [W.heap.size] (w5.alloc (.cells #[.pointer (some ⟨g,0,none⟩)] 62)) ((w5.alloc (.cells #[.pointer (some ⟨g,0,none⟩)] 62)).setCell ⟨W.heap.size,2,none⟩ (.int .i64 n)):=(Chg.refl _ _).setCell _ (.inl s_);have b9:=e4.store 2 (.int .i64 n);have k7:Way w X Y V ((w5.alloc (.cells #[.pointer (some ⟨g,0,none⟩)] 62)).setCell ⟨W.heap.size,2,none⟩ (.int .i64 n)) X5 S5:=Way.scr HH.out (k5.below a4) (G:=[W.heap.size]) (fun g E=>by rw[a_.1 E];exact⟨o_,j1⟩) cx;have o6:=t6.lt;have D0:wc.heap.size<=w5.heap.size:=g2.size;have o7:=t5.chg cx (fun Z=>by have:=a_.1 Z;omega);have o8:=(t6.below a4).chg cx (fun Z=>by have:=a_.1 Z;omega);have t8:Chg (W.heap.size::XY X2 Y) wc ((w5.alloc (.cells #[.pointer (some ⟨g,0,none⟩)] 62)).setCell ⟨W.heap.size,2,none⟩ (.int .i64 n)):=((g2.mono fun g E=>.inl (e_ _ E)).trans (Chg.of_below a4 []) (fun g E=>by cases E)).trans cx (fun g E=>.inl (by rw[a_.1 E];exact i_));have f57:∀g∈W.heap.size::XY X5 Y,g∈W.heap.size::XY X2 Y\/wc.heap.size<=g:=fun g E=>by
    rcases f_.1 E with q|q
    ·exact .inl (by rw[q];exact i_)
    ·exact(i' g q).imp (e_ _) id
   have f6:=I.fix.step t8 f57;have x2:=e4.cell 2;have y2:=e4.free 2;have t7:=f6.now.2.1.cell 0;have t1:=k7.at_.box.cell 1;simp only[Yw.cells,gE0,gE1]at x2 t7 t1;have t':=sx2 X5.d k7.at_.man k7.at_.row.row k7.at_.row.nb;unfold Vw.val at t';have D1:=H_ t';have D2:=H_ C;have a6:=H_ k7;have D3:=H_ f6;have e6:=H_ (c_ t8 f57);have k6:=H_ b9;have u3:=H_ o7;have a7:=H_ (c_ o8 (c_ C8 (c_ C9 (c_ o6 (c_ D0 o5)))));have H7:=H_ (c_ j2 j1);have H8:=H_ e5;have K6:S5.load<=S.load+6:=o_
   clear t' C k7 f6 t8 f57 b9 o7 o8 e4 t5 cx C8 C9 o6 D0 o5 j0 j1 j2 k5 t3 g2 i' e5 a4 I C6 m2 t6 g0 H5;go_wp2_with fail;generalize H9:((w5.alloc (.cells #[.pointer (some ⟨g,0,none⟩)] 62)).setCell ⟨W.heap.size,2,none⟩ (.int .i64 n))=w7 at *
   refine m_ D1 ?_
   rintro e J ⟨A8,c8,rfl,D4,u4⟩;have k8:=a6.out.below u4;have j3:=name_any (str Mn.kLog) (by rw[ny];decide) V.M.v.log o_ J k8.at_.dm.env;rw[oz]at j3;rw[show str Mn.kLog=({ data:=#[108,111,103] }:ByteArray) from rfl]at j3;obtain⟨el,u5⟩:=n_ (Mn.name Mn.kLog V.M.v.log);have K7:el.length<=1000:=by rw[u5];exact ik1 _ _
   have C:=D2.out;rw[<-u5]at j3 C;have H':∀O,(Instr.field 121 (.agg #[.int .i64 V.M.v.log,.slice A8 Y.P.n c8,.int .u64 (V.M.v.floor:Int),.int .u64 (V.M.v.cert:Int),.int .u64 (V.M.v.at_:Int),.int .u64 (V.M.v.lease:Int)]) 0).run prog O=.ok (.int .i64 V.M.v.log) O:=fun _=>rfl;have D5:=H_ j3;have D6:=H_ C;clear j3 u5 C D2 D1 D4 x2 y2 t1 t7 H9;go_wp2_with fail
   refine m_ D5 ?_
   rintro e w9 ⟨rfl,u6⟩;have a5:=az u4 u6;have k9:=k8.below u6;have j4:=D3.out.below a5;have a0:=k6.out.below a5;have o':=u3.out.below a5;have p0:=a7.out.1.below a5;have t9:=j4.now.2.1.cell 0;have b0:=a0.cell 0;have b1:=a0.cell 1;have b2:=a0.cell 2;have b3:=a0.cell 3;have b4:=a0.cell 4;have b5:=a0.cell 5;have b6:=a0.cell 6;simp only[List.set,gE0,gE1]at t9 b0 b1 b2 b3 b4 b5 b6;have L0:=a5.size;have L1:w5.heap.size < w7.heap.size:=u3.out.lt;have p7:=HM.out.out;have D7:=HM.out.gtx;have I0:Y.s < w.heap.size:=s7.2.2.1;have D8:cj6 w.heap.size w9 X5 Y V 65 #[.pointer (some ⟨U.heap.size,0,none⟩),.pointer (some ⟨w5.heap.size,0,none⟩),.pointer (some ⟨w.heap.size,0,none⟩)] (St.turned n ts):=by
    intro w1 X1 P1 S1 M1 b e1 g4 u7 I1 I2;have g0:=j4 w1 (g4.mono fun g E=>.inl (e_ _ E));have I3:w5.heap.size∉XY X5 Y:=fun Z=>by have:=H7.out.1 _ Z;omega
    have C2:=g4.size;refine lw3 (w0:=w) HH.out (k9.c.trans g4 k9.f) (fun g E=>?_) I2 U.heap.size w5.heap.size w.heap.size g T q n ts g0.1 (o'.chg g4 I3) g0.2.1 o_ (by have:=a7.out.2.2.2.2.1;have:=a7.out.2.2.2.2.2;omega) o_ ?_ (by have:=a7.out.2.1;have:=HM.out.way.c.size;omega) (fun Z=>?_) (I1.imp id (fun z a Q=>?_)) ?_
    ·rcases u7 g E with z|z
     ·exact k9.f g z
     ·exact .inr (j_ k9.c.size z)
    ·rw[e1,H8.out]
     exact p0.chg g4 a7.out.2.2.1
    ·rcases u7 g Z with z|z
     ·exact a7.out.2.2.1 z
     ·have:=a7.out.2.2.2.1
      omega
    ·have:=z a Q
     have:=a7.out.2.2.2.1;omega
    ·refine(HM.out.fix.step ((e6.out.1.trans (Chg.of_below a5 []) (fun g E=>by cases E)).trans g4 (fun g E=>?_)) (fun g' E=>?_)).mono (fun O hq=>hq.2.2.2)
     ·exact e6.out.2 g (e_ _ E)
     ·rcases f_.1 E with z|z
      ·exact .inr (by rw[z];exact a7.out.2.1)
      ·rcases u7 g' z with z|z
       ·exact e6.out.2 g' (e_ _ z)
       ·have:=a7.out.2.2.2.2.1
        exact .inr o_
   have g5:=qq4 k9.at_ ⟨[],add,n,0,0,0,0⟩ none 0 0 AF nf cf o_ o_ Row.nil_ j4.now.2.2.1 (fun a Q=>by cases Q) (fun a Q Z=>by
    have z1:=p7 a Q;have z2:=e6.out.2 a.block (e_ _ Z)
    rcases z2 with z|z
    ·rcases f_.1 z with z|z
     ·exact z1.2.1 z
     ·exact z1.1 z
    ·omega) E7 E8 E9 65 _ (St.turned n ts) (fun _ _=>rfl) (B:=w.heap.size) k9.c.size D8
   obtain⟨r,hr⟩:=n_ (St.turn S5 V ⟨[],add,n,0,0,0,0⟩ (St.turned n ts));have I4:r.1.load<=S5.load:=by rw[hr];exact uy1 _ _ _ _
   have C:=D6.out;unfold Ed.val at g5;simp only[cr_]at g5;rw[<-hr]at g5;replace C:R=if r.2.2=0 then ((r.1.remove el).1,r.2.1,0) else r:=by rw[C,hr]
   obtain⟨I5,O1,j5⟩:=r;simp only at g5 C I4;have u8:=H_ g5;have I6:=H_ C;have m3:=H_ k9;have D9:=H_ j4;clear g5 D8 C hr D6 D5 k8 k9 j4 a0 o' p0 a5 u4 u6 p7 D7 I0 k6 u3 D3 a6;go_wp2_with fail;clear H' t9 b0 b1 b2 b3 b4 b5 b6
   refine m_ u8 ?_
   rintro e D' ⟨rfl,u9,u',v3,c9,a8,e7,j6⟩;have m4:=m3.out.c.trans e7 m3.out.f;have m5:∀g∈XY u9 u',g∈XY X Y\/w.heap.size<=g:=fun g E=>by
    rcases j6 g E with z|z
    ·exact m3.out.f g z
    ·exact .inr z
   have m6:u9.d=X.d:=v3.trans m3.out.d;have C:=I6.out
   by_cases v4:j5=0
   ·subst v4
    rw[if_pos rfl]at C;have E0:=(D9.out D' (e7.mono fun g E=>.inl (e_ _ E))).2.1;have t10:=E0.cell 0;have d10:=a8.box.cell 0;rw[c9]at d10;simp only[Yw.cells,gE0,gE1]at t10 d10;have j7:=(Acc.start (F:=[]) a8.dm).remove (str el) (by rw[ny];unfold maxLen;omega) o_;rw[oz]at j7;obtain⟨a,Q⟩:=n_ (I5.remove el);rw[<-Q]at j7 C;obtain⟨O2,L3⟩:=a;simp only at j7 C;have E1:=H_ j7;have HS:=H_ a8;have HC:=H_ (c_ m4 (c_ m5 (c_ m6 c9)));have I7:=H_ C;clear j7 a8 m4 m5 m6 C Q E0 u8 v3 c9 e7 j6;go_wp2_with fail
    refine m_ E1 ?_
    rintro e I8 ⟨rfl,Xq,hq⟩;obtain⟨I9,E2,E3,p8,p9⟩:=HS.out.disk hq.updM;have hz:gx1 X Y w R (.returned (.int .i64 0)) I8:=by
     rw[I7.out];refine⟨rfl,I9,u',E2.trans HC.out.2.2.1,HC.out.2.2.2,E3,HC.out.1.trans p8 HC.out.2.1,fun g E=>?_⟩
     rcases p9 g E with z|z
     ·exact HC.out.2.1 g z
     ·exact .inr (j_ HC.out.1.size z)
    have HZ:=H_ hz;clear hz hq E3 p8 p9 E2 t10 d10 E1;go_wp2;go_ret;exact HZ.out
   ·have e3:((j5:Int)==0)=false:=by simp;omega
    rw[if_neg v4]at C;have hz:gx1 X Y w R (.returned (.int .i64 (j5:Int))) D':=by
     rw[C];exact⟨rfl,u9,u',m6,c9,a8,m4,m5⟩
    have HZ:=H_ hz;clear hz C v4 m4 m5 m6 a8 e7 j6 v3 c9 u8;go_wp2;go_ret;exact HZ.out
  ·have e3:((s':Int)==0)=false:=by simp;omega
   have C:=m2.out;rw[if_pos h5]at C;have hz:gx1 X Y w R (.returned (.int .i64 (s':Int))) (w5.alloc (.cells #[.pointer p5] 62)):=by
    rw[C];exact⟨rfl,(k5.below a4).upd⟩
   have HZ:=H_ hz;clear hz C h5 d1 k5 t3 g2 i' e5 a4 t5 m2 I;go_wp2;go_ret;exact HZ.out
end
end Go.Proofs.YtkdbagdiplpcfaaGreatDoor
