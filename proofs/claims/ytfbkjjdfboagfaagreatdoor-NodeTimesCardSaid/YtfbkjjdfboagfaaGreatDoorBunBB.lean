/- Some of the texts. No conditions. -/
import Derived.Test.YtfbkjjdfboagfaaGreatDoorBunAV
import Derived.Test.YtfbkjjdfboagfaaGreatDoorBunAW

set_option linter.unusedSimpArgs false
set_option linter.unusedVariables false
set_option maxRecDepth 100000
set_option maxHeartbeats 16000000
namespace Go.Proofs.YtfbkjjdfboagfaaGreatDoor
open Go.Proofs.Tryz Go Go.RowKit Go.Lib Go.Shelf
section
variable {w w1 w2:World} {X X1 X2:Dw} {S S1 S2:Sd} {Y Y1 Y2:Yw} {V V1 V2:Sv} {nb now grace:Nat} {ni:Int}
def zz3 (X:Dw) (w:World) (S':Sd) (V':Sv) (ni:Int) (grace:Nat) (e:Ending) (w':World):Prop:=∃nb X' Y,e=.returned (.tuple #[.pointer (some ⟨nb,0,none⟩),.int .i64 0])/\X'.d=X.d/\NdAt w' X' S' Y V' nb ni V'.M.v.at_ grace/\Chg X.foot w w'/\(∀g∈XY X' Y,g∈X.foot\/(w:Nat)<=g)/\(w:Nat)<=nb
theorem xw3 (S':Sd) (C:Sv) (I:Calls prog 13 #[X.d] w (ak2 X w S' C)) (J:C.M.v.files.length<=10000) (a1:C.M.v.at_<=1099511627776) (ni:Int) (grace:Nat) (b0:0<=ni/\ni < 7) (b1:grace<=1099511627776):
  Calls prog 5 #[ni,X.d,[grace]] w (zz3 X w S' C ni grace):=by
 have a2:=H_ I;have e1:(ni < (0:Int))=False:=eq_false o_;have e2:((7:Int)<=ni)=False:=eq_false o_;have e3:((1099511627776:Int) < (grace:Int))=False:=eq_false o_;obtain⟨a,ha⟩:=n_ C.M.v.at_;have b2:∀(x1 x2 x3 x4:Int) W',(Instr.field 39 (.agg #[.int .u64 x1,.int .u64 x2,.int .u64 x3,.int .u64 x4]) 2).run prog W'=.ok (.int .u64 x3) W':=fun _ _ _ _ _=>rfl;have a':min (a:Int) 1099511627776=(a:Int):=o_
 have O:=H_ (d_ ha J);clear I a1 ha J;go_enter func5,ntmps5;go_wp2_with fail
 refine m_ a2 ?_
 rintro e w1 ⟨X1,Y,rfl,e4,h1,c1,f1⟩;have o:=aw1 h1 O.2;obtain⟨mt,E⟩:=n_ (St.uj C);rw[<-E]at o;have Q:mt.at_=a:=by rw[O.1,E];rfl
 obtain⟨m1,m2,m3,m4⟩:=mt;simp only at Q;subst Q;unfold Mt.val at o;simp only at o;have U:=H_ o;have H1:=H_ (d_ h1 (d_ e4 (d_ c1 f1)));clear o h1 e4 c1 f1 E;go_wp2_with fail
 refine m_ U ?_
 rintro e w2 ⟨rfl,z⟩;have H:=b_ w2 (.cells #[ni,Y.s,[m3],[grace]] 59);have hx:=BoxO.new w2 #[ni,Y.s,[m3],[grace]] 59;have HZ:Hid (zz3 X w S' C ni grace (.returned (.tuple #[(w2:Nat),.int .i64 0])) (w2.alloc (.cells #[ni,Y.s,[m3],[grace]] 59))):=H_ (by
  obtain⟨h1,e4,c1,f1⟩:=H1.out;have a6:=h1.lt;have hs:=z.size;rw[O.1]at hx ⊢;exact⟨(w2:Nat),X1,Y,rfl,e4,⟨(h1.below z).below (by rw[<-O.1];exact H),hx,fun hm=>by have:=a6 _ hm;omega⟩,c1.trans (Chg.of_below (az z (by rw[<-O.1];exact H)) X.foot) (fun g hg=>.inl hg),f1,g_ c1.size hs⟩)
 clear z H hx U;go_wp2;go_ret2;exact HZ
theorem jx3 (h:Dm w X S) (hd:S.dead=false) (z:∀s∈S.list,St.cx1 s=false) (C:S.load<=100000000000) (S':Sd) (o:Sv) (O:St.create S=(S',some o,0)) (E:o.M.v.files.length<=10000) (H:o.M.v.at_<=1099511627776) (ni:Int) (grace:Nat) (I:0<=ni/\ni < 7) (J:grace<=1099511627776):
  Calls prog 5 #[ni,X.d,[grace]] w (zz3 X w S' o ni grace):=
 xw3 S' o (wy4 h hd z C S' o O) E H ni grace I J
theorem nk2 (h:NdAt w X S Y V nb ni now grace) (o:V.st.length<=1000000):
  Calls prog 10 #[nb] w fun e w'=>∃A' c',e=.returned (.slice A' Y.A.n c')/\w'.ownsRow w 33 5 (.slice A' Y.A.n c') Y.A.n (itc V.st)/\Below w w w':=by
 have E:=h.box.c1;have z:=H_ (fy1 h.at_ o);clear h;go_enter func10,ntmps10;go_wp2_with fail
 refine m_ z ?_
 rintro e w1 ⟨A',c',rfl,h1,h2⟩;have C:=H_ (d_ h1 h2);clear h1 h2;go_wp2;go_ret;exact⟨_,_,rfl,C⟩
theorem zq4 (h:NdAt w X S Y V nb ni now grace) (U:V.M.v.files.length<=10000):
  Calls prog 9 #[nb] w fun e w'=>e=.returned (St.uj V).val/\Below w w w':=by
 have C:=b_ w (.cells #[.int .u64 0,.int .u64 0,.int .u64 0,.int .u64 0] 39);have H:=BoxO.new w #[.int .u64 0,.int .u64 0,.int .u64 0,.int .u64 0] 39;have h1:=h.below C;have k1:=h1.box.c1;have z:=aw1 h1.at_ U;obtain⟨mt,I⟩:=n_ (St.uj V);rw[<-I]at z ⊢;unfold Mt.val at z ⊢;have J:=H_ z;have Q:=H_ (d_ C H);clear z I h h1 C H;go_enter func9,ntmps9;go_wp2_with fail
 refine m_ J ?_
 rintro e w2 ⟨rfl,E⟩;have O:=az Q.1 E;have o:=Q.2.below E;have f0:=o.free 0;have f1:=o.free 1;have f2:=o.free 2;have f3:=o.free 3;have s0:=o.c0;have s1:=o.c1;have s2:=o.c2;have s3:=o.c3;have HQ:=H_ O;clear J Q E o O;go_wp2;refine bodyPost_ret (v:=.agg #[[mt.floor],[mt.cert],[mt.at_],[mt.lease]]) (by simp[results,go_sem, *]) rfl ⟨rfl,?_⟩;exact(((HQ.setCell (p:=⟨w,0,none⟩) l_ _).setCell (p:=⟨w,1,none⟩) l_ _).setCell (p:=⟨w,2,none⟩) l_ _).setCell (p:=⟨w,3,none⟩) l_ _
theorem ux3 (h:NdAt w X S Y V nb ni now grace):
  Calls prog 8 #[nb] w fun e w'=>e=.returned (.int .u64 now)/\w'=w:=by
 have o:=h.box.c2;clear h;go_enter func8,ntmps8;go_wp2;go_ret;exact⟨rfl,rfl⟩
end
end Go.Proofs.YtfbkjjdfboagfaaGreatDoor
