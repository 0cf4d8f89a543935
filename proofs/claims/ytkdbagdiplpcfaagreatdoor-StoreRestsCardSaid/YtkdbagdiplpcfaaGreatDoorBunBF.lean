/- Some of the texts. No conditions. -/
import Derived.Test.YtkdbagdiplpcfaaGreatDoorBunBB
import Derived.Test.YtkdbagdiplpcfaaGreatDoorBunBA

set_option linter.unusedSimpArgs false
set_option linter.unusedVariables false
set_option maxRecDepth 100000
set_option maxHeartbeats 16000000
namespace Go.Proofs.YtkdbagdiplpcfaaGreatDoor
open Go.Proofs.Tryz Go Go.RowKit Go.Lib Go.Shelf
section
variable {w w0 w1 w2:World} {X X1 X2:Dw} {S S1 S2:Sd} {Y Y1 Y2:Yw} {V V1 V2:Sv} {g gw:Nat} {R:Sl} {L:List It} {mt:Mt}
theorem range_one (l:List It) (s:Int) (t:Nat):(l.filter (inRange s t t)).head?=l.find? (isAt s t):=by
 rw[List.head?_filter]
 congr 1
 funext x
 have:(decide (t<=x.t) &&decide (x.t<=t))=(x.t==t):=by
  rw[cb_];simp;omega
 unfold inRange isAt;rw[this]
theorem yw5 (x c a e:Nat) (w:World):(binOp .eql 29 (.agg #[.int .u64 (x:Int),.int .u64 (c:Int),.int .u64 (a:Int),.int .u64 (e:Int)]) (.agg #[.int .u64 (x:Int),.int .u64 (c:Int),.int .u64 (a:Int),.int .u64 (e:Int)])).run prog w=.ok (.bool true) w:=by
 have H:=underlying27;have I:=Tryz.isAgg27;have J:=Tryz.sizeOf27;have C:prog.underlying 29=some (.struct (prog.fieldsOf 29)):=by kernel_rfl
 have E:prog.stoodInHeld 29=false:=by kernel_rfl
 rw[run_eql_struct,show (10000:Nat)=9999+1 from rfl,run_equalIn_agg w 9999 29 _ _ C E];simp only[Program.fieldsOf,underlying29];go_simp
theorem kz25 {P S a oi v} (h:Hv P S a oi v:=by intro w C;(have z:=Z.out _ C;have m1:=z.c1;have m2:=z.c2;have m3:=z.c3;have m4:=z.c4;have m5:=z.c5;have m6:=z.c6;have J:=a0.out;clear z);go_simp;try (with_reducible rfl)):Hv P S a oi v:=h
theorem by4 (h:Ws w0 w gw X S Y V R L mt) (hs:V.st=L) (hm:St.cv1 V=mt) (ho:V.only=false) (hl:L.length<=1500) (c9:V.tabs.length<=1000) (d0:V.M.v.files.length<=40):
  Calls prog 9 #[.pointer (some ⟨gw,0,none⟩)] w fun e w'=>e=.returned (.bool true)/\Below w.heap.size w w':=by
 have a1:∀E,Below w.heap.size w E->Calls prog 39 #[.pointer (some ⟨Y.s,0,none⟩)] E fun e w'=>∃A' O,e=.returned (.slice A' Y.A.n O)/\Row w'.heap.size w' A' Y.A.n 5 (itc L)/\Below E.heap.size E w':=fun E I=>(mv2 (h.at_.below I) (by rw[hs];omega)).mono fun e w' ⟨A',O,q1,q2,q3⟩=>⟨A',O,q1,by rw[<-hs];exact Row.own q2,q3⟩;have heq:∀E A' O,Below w.heap.size w E->Row E.heap.size E A' Y.A.n 5 (itc L)->Calls prog 38 #[.slice A' Y.A.n O,.slice R.a R.n R.c] E fun e w'=>e=.returned (.bool true)/\Below E.heap.size E w':=fun E A' O I hr=>by
  have a2:=(h.row.below I).up I.size;have:=pz2 A' Y.A.n O L R.a R.n R.c L E (by have:=hr.qj;omega) (by have:=a2.qj;omega) hr a2;rw[decide_eq_true rfl]at this;exact this
 have Q:∀E,Below w.heap.size w E->Calls prog 40 #[.pointer (some ⟨Y.s,0,none⟩)] E fun e w'=>e=.returned mt.val/\Below E.heap.size E w':=fun E I=>by
  have:=gx3 (h.at_.below I) o_;rw[hm]at this;exact this
 have a4:∀E,Below w.heap.size w E->Calls prog 10 #[.pointer (some ⟨Y.s,0,none⟩)] E fun e w'=>(∃a b d f,e=.returned (.agg #[.int .i64 a,.int .i64 b,.int .i64 d,.int .i64 f,.bool false]))/\Below E.heap.size E w':=fun E I=>(jj1 (h.at_.below I) o_).mono fun e w' ⟨q1,q2⟩=>⟨⟨(V.st.length:Int),(V.mem.length:Int),(V.tabs.length:Int),(V.ct:Int),by rw[q1,ho]⟩,q2⟩;have a5:∀E,Below w.heap.size w E->BoxO E 39 gw [.pointer (some ⟨X.d,0,none⟩),.pointer (some ⟨Y.s,0,none⟩),.slice R.a R.n R.c,.int .u64 (mt.floor:Int),.int .u64 (mt.cert:Int),.int .u64 (mt.at_:Int),.int .u64 (mt.lease:Int)]:=fun E I=>h.box.below I;have J:=fun E=>yw5 mt.floor mt.cert mt.at_ mt.lease E;have d2:∀(a b d f:Int) E,(Instr.field 42 (.agg #[.int .i64 a,.int .i64 b,.int .i64 d,.int .i64 f,.bool false]) 4).run prog E=.ok (.bool false) E:=fun _ _ _ _ _=>rfl;unfold Mt.val at Q;have a6:=H_ a1;have a7:=H_ heq;have a8:=H_ Q;have a9:=H_ a4;have Z:=H_ a5;have a0:=H_ J;clear a1 heq Q a4 a5 J h hs hm ho;go_enter func9,ntmps9;go_wp2_with fail;refine w_h w fun C=>?_;refine w_v 0 C ?_ (k:=kz25);go_simp;refine w_v 1 C ?_ (k:=kz25);go_simp;refine w_v 2 C ?_ (k:=kz25);go_simp;refine w_v 3 C ?_ (k:=kz25);go_simp;refine w_v 5 C ?_ (k:=kz25);go_simp;refine w_v 6 C ?_ (k:=kz25);go_simp;refine w_v 7 C ?_ (k:=kz25);go_simp;refine w_v 8 C ?_ (k:=kz25);go_simp;refine w_r 4 fun K H=>?_;go_simp
 with_reducible refine(a6.out _ C).mono ?_
 rintro e wa ⟨A1,c1,rfl,a',b0⟩;have U:=H_ (az C b0);have b1:=H_ (a7.out wa A1 c1 U.out a');clear a';go_simp;refine H.out _ _ U.out ?_;clear C H K;intro C;go_simp;refine w_r 9 fun K H=>?_;go_simp
 refine m_ b1 ?_
 rintro e wb ⟨rfl,b2⟩;go_simp;refine H.out _ _ (az C b2) ?_;clear C H K;intro C;go_simp;refine w_v 10 C ?_ (k:=kz25);go_simp;refine w_v 11 C ?_ (k:=kz25);go_simp;refine w_v 12 C ?_ (k:=kz25);go_simp;refine w_v 13 C ?_ (k:=kz25);go_simp;refine w_v 14 C ?_ (k:=kz25);go_simp;refine w_v 16 C ?_ (k:=kz25);go_simp;refine w_v 17 C ?_ (k:=kz25);go_simp;refine w_v 18 C ?_ (k:=kz25);go_simp;refine w_v 19 C ?_ (k:=kz25);go_simp;refine w_r 15 fun K H=>?_;go_simp
 with_reducible refine(a8.out _ C).mono ?_
 rintro e wc ⟨rfl,b3⟩;go_simp;refine H.out _ _ (az C b3) ?_;clear C H K;intro C;go_simp;refine w_v 20 C ?_ (k:=kz25);go_simp;refine w_v 21 C ?_ (k:=kz25);go_simp;refine w_v 22 C ?_ (k:=kz25);go_simp;refine w_v 23 C ?_ (k:=kz25);go_simp;refine w_v 24 C ?_ (k:=kz25);go_simp;refine w_v 25 C ?_ (k:=kz25);go_simp;refine w_v 26 C ?_ (k:=kz25);go_simp;refine w_r 27 fun K H=>?_;go_simp
 with_reducible refine(a9.out _ C).mono ?_
 rintro e wd ⟨⟨a,b,d,f,rfl⟩,b5⟩;go_simp;refine H.out _ _ (az C b5) ?_;clear C H K;intro C;go_simp;refine w_v 28 C ?_ (k:=kz25);go_simp;refine w_v 29 C ?_ (k:=kz25);go_simp;refine w_v 30 C ?_ (k:=kz25);go_simp;refine w_v 31 C ?_ (k:=kz25);go_simp;refine w_d ?_;have HZ:=H_ C;clear C b0 b2 b3 b5 a6 a7 a8 a9 Z a0 b1 U;go_wp2;go_ret;exact⟨rfl,HZ.out⟩
theorem mx5 (h:Ws w0 w gw X S Y V R L mt) (hs:V.st=L) (hl:L.length<=1500) (j6:V.tabs.length<=1000) (s:Int) (lo hi:Nat):
  Calls prog 23 #[.pointer (some ⟨Y.s,0,none⟩),.slice R.a R.n R.c,.int .i64 s,.int .u64 (lo:Int),.int .u64 (hi:Int)] w fun e w'=>e=.returned (.bool true)/\Below w.heap.size w w':=by
 have f5:=h.row.qj;have hrow:∀C,Below w.heap.size w C->Row C.heap.size C R.a R.n 5 (itc L):=fun C I=>(h.row.below I).up I.size;have H:Calls prog 15 #[.pointer (some ⟨Y.s,0,none⟩),.int .i64 s,.int .u64 (lo:Int)] w fun e w'=>e=.returned (.tuple #[((L.find? (isAt s lo)).getD It.none_).val,.bool (L.find? (isAt s lo)).isSome])/\Below w.heap.size w w':=by
  rw[<-hs];exact zw2 h.at_ (by rw[hs];omega) s lo
 have heq:∀l A n c B m d C,Row C.heap.size C A n 5 (itc l)->Row C.heap.size C B m 5 (itc l)->l.length<=1500->Calls prog 38 #[.slice A n c,.slice B m d] C fun e w'=>e=.returned (.bool true)/\Below C.heap.size C w':=fun l A n c B m d C h1 h2 h3=>by
  have:=pz2 A n c l B m d l C (by have:=h1.qj;omega) (by have:=h2.qj;omega) h1 h2;rw[decide_eq_true rfl]at this;exact this
 have f6:∀C,Below w.heap.size w C->Calls prog 39 #[.pointer (some ⟨Y.s,0,none⟩)] C fun e w'=>∃A' c',e=.returned (.slice A' Y.A.n c')/\Row w'.heap.size w' A' Y.A.n 5 (itc L)/\Below C.heap.size C w':=fun C I=>(mv2 (h.at_.below I) (by rw[hs];omega)).mono fun e w' ⟨A',c',q1,q2,q3⟩=>⟨A',c',q1,by rw[<-hs];exact Row.own q2,q3⟩;have b6:∀C,Below w.heap.size w C->Calls prog 78 #[.pointer (some ⟨Y.s,0,none⟩),.int .i64 s] C (zy C (L.filter fun a=>a.s==s)):=fun C I=>by
  rw[<-hs];exact ew3 (h.at_.below I) (by rw[hs];omega) s
 have b7:∀C,Below w.heap.size w C->Calls prog 80 #[.pointer (some ⟨Y.s,0,none⟩),.int .i64 s,.int .u64 (lo:Int),.int .u64 (hi:Int)] C (zy C (L.filter (inRange s lo hi))):=fun C I=>by
  rw[<-hs];exact nz4 (h.at_.below I) (by rw[hs];omega) s lo hi
 have b8:∀C,Below w.heap.size w C->Calls prog 79 #[.slice R.a R.n R.c,.int .i64 s] C (dw1 C (L.filter fun a=>a.s==s)):=fun C I=>pv3 R.a R.n R.c L s C o_ (hrow C I);have b9:∀t C,Below w.heap.size w C->Calls prog 77 #[.slice R.a R.n R.c,.int .i64 s,.int .u64 (lo:Int),.int .u64 ((t:Nat):Int)] C (dw1 C (L.filter (inRange s lo t))):=fun t C I=>gk4 R.a R.n R.c L s lo t C o_ (hrow C I);have f7:∀C,Below w.heap.size w C->Calls prog 10 #[.pointer (some ⟨Y.s,0,none⟩)] C fun e w'=>(∃b d f o,e=.returned (.agg #[.int .i64 (R.n:Int),.int .i64 b,.int .i64 d,.int .i64 f,.bool o]))/\Below C.heap.size C w':=fun C I=>(jj1 (h.at_.below I) o_).mono fun e w' ⟨q1,q2⟩=>⟨⟨(V.mem.length:Int),(V.tabs.length:Int),(V.ct:Int),V.only,by rw[q1,hs,f5]⟩,q2⟩;have j8:∀(b d f:Int) (o:Bool) C,(Instr.field 42 (.agg #[.int .i64 (R.n:Int),.int .i64 b,.int .i64 d,.int .i64 f,.bool o]) 0).run prog C=.ok (.int .i64 (R.n:Int)) C:=fun _ _ _ _ _=>rfl;have a4:∀p:It->Bool,(L.filter p).length<=1500:=fun p=>j_ (L_ _ _) hl;have J:=range_one L s lo;obtain⟨o,ho⟩:=n_ (L.find? (isAt s lo));obtain⟨q1,b'⟩:=n_ (L.filter fun a=>a.s==s);obtain⟨q2,c9⟩:=n_ (L.filter (inRange s lo hi));obtain⟨q0,d0⟩:=n_ (L.filter (inRange s lo lo));have d2:=b9 lo;have d3:=b9 hi;rw[<-ho]at H J;rw[<-d0]at J d2;rw[<-b']at b6 b8;rw[<-c9]at b7 d3;have d4:Hid (q0.length<=1500/\q1.length<=1500/\q2.length<=1500/\L.length<=1500):=H_ ⟨by rw[d0];exact a4 _,by rw[b'];exact a4 _,by rw[c9];exact a4 _,hl⟩;have Z:=H_ hrow;have a0:=H_ heq;have d5:=H_ f6;have d6:=H_ b6;have d7:=H_ b7;have d8:=H_ b8;have f8:=H_ d2;have d9:=H_ d3;have d':=H_ f7;have E:=H_ J;clear heq f6 b6 b7 b8 b9 d2 d3 f7 a4 d0 b' c9 ho hl j6 hs h f5 hrow J;obtain⟨z,b,hz⟩:∃z b,z=o.getD It.none_/\b=o.isSome:=⟨_,_,rfl,rfl⟩;rw[<-hz.1,<-hz.2]at H;unfold It.val at H;have a6:=H_ H;have HZ:=H_ hz;clear H hz;go_enter func23,ntmps23;go_wp2_with fail
 refine m_ a6 ?_
 rintro e w1 ⟨rfl,f'⟩;have e0:=az f' (b_ w1 (.cells #[.int .i64 z.s,.int .i64 z.k,.int .u64 (z.t:Int),.int .u64 (z.v:Int),.int .i64 z.x] 49));have g0:=BoxO.new w1 #[.int .i64 z.s,.int .i64 z.k,.int .u64 (z.t:Int),.int .u64 (z.v:Int),.int .i64 z.x] 49;have g1:=H_ (f8.out _ e0);have g2:=H_ g0;have g4:=H_ e0;clear f' e0 g0 a6 f8;go_wp2_with fail;refine g1.out.mono ?_;rintro e w3 ⟨A3,k3,c3,rfl,g5,g6,e1⟩;have Q:=g2.out.below e1;have x0:=Q.c0;have x1:=Q.c1;have x2:=Q.c2;have x3:=Q.c3;have x4:=Q.c4;have e2:=H_ (az g4.out e1);have U:=H_ (c_ g5 g6);clear g5 g6 e1 Q g1 g2 g4;go_upto_region 3 with (fail)
 go_cut [49] (fun v wx=>v=.bool false/\Below w.heap.size w wx)
 case first=>
  clear a0 d5 d6 d7 d8 d9 d' Z j8
  cases o with
  |none=>
   have hq:q0=[]:=List.head?_eq_none_iff.1 E.out;obtain rfl:k3=0:=by rw[U.out.1,hq];rfl
   obtain⟨rfl,rfl⟩:=HZ.out;have k5:∀C,(binOp .neq 49 (.agg #[.int .i64 0,.int .i64 0,.int .u64 0,.int .u64 0,.int .i64 0]) (.agg #[.int .i64 0,.int .i64 0,.int .u64 0,.int .u64 0,.int .i64 0])).run prog C=.ok (.bool false) C:=fun C=>mx4 It.none_ It.none_ C;simp only[Option.getD_none,It.none_,cf_]at x0 x1 x2 x3 x4 ⊢;clear E U hq HZ
   go_quiet (fail)
   go_wp2_with fail
   go_meet
   exact⟨rfl,below_drewN e2.out _⟩
  |some x=>
   obtain⟨r,hq⟩:∃r,q0=x::r:=by
    cases q0 with
    |nil=>cases E.out
    |cons y r=>
     have h1:=E.out;injection h1 with h1;exact⟨r,by rw[h1]⟩
   have k6:0 < k3:=by rw[U.out.1,hq];simp
   have l':(0:Int) < (k3:Int):=o_
   obtain⟨p,k9,rfl,m0,c0,c1,c2,g7,c4⟩:=U.out.2.row.it (k:=0) k6;have g8:q0[0]=x:=by simp[hq]
   rw[g8]at c0 c1 c2 g7 c4;rw[mw1]at c0 c1 c2 g7 c4;obtain⟨rfl,rfl⟩:=HZ.out;have k5:∀C,(binOp .neq 49 (.agg #[.int .i64 z.s,.int .i64 z.k,.int .u64 (z.t:Int),.int .u64 (z.v:Int),.int .i64 z.x]) (.agg #[.int .i64 z.s,.int .i64 z.k,.int .u64 (z.t:Int),.int .u64 (z.v:Int),.int .i64 z.x])).run prog C=.ok (.bool false) C:=fun C=>by
    have:=mx4 z z C;simpa using this
   simp only[Option.isSome_some]at x0 x1 x2 x3 x4 ⊢;clear E U hq HZ k9 g8
   go_quiet (fail)
   go_wp2_with fail
   go_meet
   exact⟨rfl,below_drewN e2.out _⟩
 case rest=>
  obtain⟨rfl,e3⟩:=hcut;have g9:=H_ e3;have g':=H_ (d5.out _ e3);clear e3 x0 x1 x2 x3 x4 e2 U E HZ d5;go_wp2_with fail;refine g'.out.mono ?_;rintro e w5 ⟨A5,c5,rfl,h0,h6⟩;have e4:=H_ (az g9.out h6);have h7:=H_ (a0.out L A5 Y.A.n c5 R.a R.n R.c w5 h0 (Z.out w5 e4.out) d4.out.2.2.2);clear h0 h6 g' g9;go_wp2_with fail;refine h7.out.mono ?_;rintro e w6 ⟨rfl,h8⟩;have e5:=H_ (az e4.out h8);have h9:=H_ (d6.out _ e5.out);clear h8 h7 e4 d6;go_wp2_with fail;refine h9.out.mono ?_;rintro e w7 ⟨A7,k7,rfl,h',i0,i1⟩;have e6:=H_ (az e5.out i1);have i2:=H_ (c_ h' i0);have i3:=H_ (d8.out _ e6.out);clear h' i0 i1 h9 e5 d8;go_wp2_with fail;refine i3.out.mono ?_;rintro e w8 ⟨A8,k8,c8,rfl,k',i4,a5⟩;have i5:=H_ (az e6.out a5);have i6:=H_ (a0.out q1 A7 k7 k7 A8 k8 c8 w8 ((i2.out.2.row.below a5).up a5.size) i4.row d4.out.2.1);clear k' i4 a5 i3 e6 i2;go_wp2_with fail;refine i6.out.mono ?_;rintro e w9 ⟨rfl,i7⟩;have e7:=H_ (az i5.out i7);have i8:=H_ (d7.out _ e7.out);clear i7 i6 i5 d7;go_wp2_with fail;refine i8.out.mono ?_;rintro e m6 ⟨l1,i9,rfl,a7,a8,a9⟩;have a1:=H_ (az e7.out a9);have a':=H_ (c_ a7 a8);have i':=H_ (d9.out _ a1.out);clear a7 a8 a9 i8 e7 d9;go_wp2_with fail;refine i'.out.mono ?_;rintro e l2 ⟨l3,l4,l5,rfl,j0,b0,O⟩;have b2:=H_ (az a1.out O);have j1:=H_ (a0.out q2 l1 i9 i9 l3 l4 l5 l2 ((a'.out.2.row.below O).up O.size) b0.row d4.out.2.2.1);clear j0 b0 O i' a1 a';go_wp2_with fail;refine j1.out.mono ?_;rintro e m7 ⟨rfl,b3⟩;have a2:=H_ (az b2.out b3);have j2:=H_ (d'.out _ a2.out);clear b3 j1 b2 d';go_wp2_with fail;refine j2.out.mono ?_;rintro e m8 ⟨⟨b1,d1,f1,o1,rfl⟩,b5⟩;have j3:=H_ (az a2.out b5);clear b5 j2 a2 a0 Z;go_wp2;go_ret;exact⟨rfl,j3.out⟩
end
end Go.Proofs.YtkdbagdiplpcfaaGreatDoor
