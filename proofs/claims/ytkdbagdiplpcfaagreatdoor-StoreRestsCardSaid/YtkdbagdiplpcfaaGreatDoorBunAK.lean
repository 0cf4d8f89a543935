/- Some of the texts. No conditions. -/
import Derived.Test.YtkdbagdiplpcfaaGreatDoorBunAG
import Derived.Test.YtkdbagdiplpcfaaGreatDoorBunAF

set_option linter.unusedSimpArgs false
set_option linter.unusedVariables false
set_option maxRecDepth 100000
set_option maxHeartbeats 16000000
namespace Go.Proofs.YtkdbagdiplpcfaaGreatDoor
open Go.Proofs.Tryz Go Go.RowKit Go.Lib Go.Shelf
structure lq1 (B:Nat) (w:World) (A:Option Addr) (n c:Nat) (fs:List (Int×Int)):Prop where
 row:Row w.heap.size w A n 2 (dw fs)
 nc:n<=c
 cm:c<=maxLen
 low:∀a,A=some a->B<=a.block
def uv3 (w:World) (o:Option Vw) (x:Ending) (w':World):Prop:=
 Below w.heap.size w w'/\match o with
 |none=>x=.returned (.tuple #[Vw.none_.val none 0 0,.bool false])
 |some u=>∃A N c,x=.returned (.tuple #[u.val A N c,.bool true])/\lq1 w.heap.size w' A N c u.files
def drop1 (n:Int) (fs:List (Int×Int)):Option (List (Int×Int)):=if fs.any (fun f=>f.2==n) then some (fs.eraseP fun f=>f.2==n) else none
theorem rk1:∀(a b:List Int) (fs:List (Int×Int)),dropAll (a++b) fs=(dropAll a fs).bind (dropAll b)
 |[],b,fs=>rfl
 |n::r,b,fs=>by
  simp only[T_,dropAll];split
  ·exact rk1 r b _
  ·rfl
theorem aj3 {ds:List Int} {k:Nat} (h:k < ds.length) (fs:List (Int×Int)):dropAll (ds.take (k+1)) fs=(dropAll (ds.take k) fs).bind (drop1 ds[k]):=by
 rw[r_ h,rk1]
 congr 1
theorem gz3 {ds:List Int} {k:Nat} {fs:List (Int×Int)} (h:dropAll (ds.take k) fs=none):dropAll ds fs=none:=by
 rw[<-al_ k ds,rk1,h];rfl
theorem kx4 {P:Int×Int->Bool} {fs:List (Int×Int)} {i:Nat} (hi:i < fs.length) (h:fs.findIdx P=i):fs.eraseP P=fs.eraseIdx i:=by
 rw[List.eraseP_eq_eraseIdx];have:fs.findIdx? P=some i:=by
  rw[List.findIdx?_eq_some_iff_findIdx_eq];exact⟨hi,h⟩
 rw[this]
theorem ex5 {v:Vw} {e:Ed} (h:dropAll e.drop v.files=none):v.app e=none:=by unfold Vw.app;rw[h]
def Vw.mix (v:Vw) (e:Ed) (fs:List (Int×Int)):Vw:=⟨if e.log=0 then v.log else e.log,fs++e.add,orElse e.floor v.floor,orElse e.cert v.cert,orElse e.at_ v.at_,orElse e.lease v.lease⟩
theorem gy5 {v:Vw} {e:Ed} {fs:List (Int×Int)} (h:dropAll e.drop v.files=some fs):v.app e=if (v.mix e fs).ok=true then some (v.mix e fs) else none:=by unfold Vw.app;rw[h];rfl
theorem dz2 {base B:Nat} {w:World} {A:Option Addr} {n c:Nat} {fs:List (Int×Int)} (h:w.ownsRow base 89 2 (.slice A n c) n (dw fs)) (J:B<=base):lq1 B w A n c fs:=by
 obtain⟨_,_,C,E,H,I⟩:=gz h;injection C with h1 h2 h3;subst h1 h3;exact⟨Row.own h,E,H,fun a O=>j_ J (I a O).1⟩
theorem lq1.below {B n c:Nat} {w w':World} {A:Option Addr} {fs:List (Int×Int)} (h:lq1 B w A n c fs) (C:Below w.heap.size w w'):lq1 B w' A n c fs:=⟨(h.row.below C).up C.size,h.nc,h.cm,h.low⟩
theorem lq1.chg {B n c:Nat} {w w':World} {A:Option Addr} {fs:List (Int×Int)} {G:List Nat} (h:lq1 B w A n c fs) (k:Chg G w w') (C:∀a,A=some a->a.block∉G):lq1 B w' A n c fs:=⟨(k.row h.row l_ C).up k.size,h.nc,h.cm,h.low⟩
theorem aw5 (A:Option Addr) (n c:Nat) (w:World) (C:n<=c) (_hc:c<=maxLen):Calls prog 237 #[.slice A n c] w fun e w'=>e=.returned (.slice A n n)/\w=w':=by
 go_enter func237,ntmps237;go_wp2;go_ret;exact⟨rfl,rfl⟩
theorem rv4 (v:Vw) (A0:Option Addr) (n0 c0:Nat) (e:Ed) (D:Option Addr) (m d:Nat) (A2:Option Addr) (U c2:Nat) (w:World) (x6:n0<=100000) (hm:m<=100000) (x7:U<=100000)
  (j3:Row w.heap.size w A0 n0 2 (dw v.files)) (j4:Row w.heap.size w D m 1 (uw e.drop)) (j5:Row w.heap.size w A2 U 2 (dw e.add)):
  Calls prog 177 #[v.val A0 n0 c0,e.val D m d A2 U c2] w (uv3 w (v.app e)):=by
 obtain⟨i0,m3,m4,m5,m6⟩:=info_parts nk1;have i5:=fun h=>ex5 (v:=v) (e:=e) h;have i6:=fun fs h=>gy5 (v:=v) (e:=e) (fs:=fs) h;generalize s3:v.app e=AP at *;have e6:=H_ i5;have a4:=H_ i6;clear i5 i6 s3;have m7:=fun(k:Nat) (h:k < e.drop.length)=>aj3 h v.files;have m8:=fun(k:Nat) h=>gz3 (ds:=e.drop) (k:=k) (fs:=v.files) h;have s4:=j4.ilen;have s5:=j3.flen;have s6:=j5.flen;have j6:=H_ m7;have j7:=H_ m8;clear m7 m8;unfold Vw.mix at a4;unfold Vw.val Ed.val;obtain⟨g,d8,f,c,a,l⟩:=v;obtain⟨ds,ad,G,F,C,AA,L⟩:=e;simp only at j3 j4 j5 e6 a4 s4 s5 s6 j6 j7 ⊢;go_enter func177,ntmps177;go_wp2_with (at_builtin;refine iy ?_);have j8:Below w.heap.size w ((((w.alloc (.cells #[.int .i64 g,.slice A0 n0 c0,.int .u64 (f:Int),.int .u64 (c:Int),.int .u64 (a:Int),.int .u64 (l:Int)] 121)).alloc (.cells #[.slice D m d,.slice A2 U c2,.int .i64 G,.int .u64 (F:Int),.int .u64 (C:Int),.int .u64 (AA:Int),.int .u64 (L:Int)] 131)).alloc (.cells #[.int .i64 0,.slice none 0 0,.int .u64 0,.int .u64 0,.int .u64 0,.int .u64 0] 121)).alloc (.cells #[.int .i64 g,.slice A0 n0 c0,.int .u64 (f:Int),.int .u64 (c:Int),.int .u64 (a:Int),.int .u64 (l:Int)] 121)):=(((b_ _ _).alloc s_ _).alloc (by simp;omega) _).alloc (by simp;omega) _;have Z:=(((BoxO.new (w.alloc (.cells #[.int .i64 g,.slice A0 n0 c0,.int .u64 (f:Int),.int .u64 (c:Int),.int .u64 (a:Int),.int .u64 (l:Int)] 121)) #[.slice D m d,.slice A2 U c2,.int .i64 G,.int .u64 (F:Int),.int .u64 (C:Int),.int .u64 (AA:Int),.int .u64 (L:Int)] 131).alloc (.cells #[.int .i64 0,.slice none 0 0,.int .u64 0,.int .u64 0,.int .u64 0,.int .u64 0] 121)).alloc (.cells #[.int .i64 g,.slice A0 n0 c0,.int .u64 (f:Int),.int .u64 (c:Int),.int .u64 (a:Int),.int .u64 (l:Int)] 121));have hR:=((BoxO.new ((w.alloc (.cells #[.int .i64 g,.slice A0 n0 c0,.int .u64 (f:Int),.int .u64 (c:Int),.int .u64 (a:Int),.int .u64 (l:Int)] 121)).alloc (.cells #[.slice D m d,.slice A2 U c2,.int .i64 G,.int .u64 (F:Int),.int .u64 (C:Int),.int .u64 (AA:Int),.int .u64 (L:Int)] 131)) #[.int .i64 0,.slice none 0 0,.int .u64 0,.int .u64 0,.int .u64 0,.int .u64 0] 121).alloc (.cells #[.int .i64 g,.slice A0 n0 c0,.int .u64 (f:Int),.int .u64 (c:Int),.int .u64 (a:Int),.int .u64 (l:Int)] 121));have hO:=BoxO.new (((w.alloc (.cells #[.int .i64 g,.slice A0 n0 c0,.int .u64 (f:Int),.int .u64 (c:Int),.int .u64 (a:Int),.int .u64 (l:Int)] 121)).alloc (.cells #[.slice D m d,.slice A2 U c2,.int .i64 G,.int .u64 (F:Int),.int .u64 (C:Int),.int .u64 (AA:Int),.int .u64 (L:Int)] 131)).alloc (.cells #[.int .i64 0,.slice none 0 0,.int .u64 0,.int .u64 0,.int .u64 0,.int .u64 0] 121)) #[.int .i64 g,.slice A0 n0 c0,.int .u64 (f:Int),.int .u64 (c:Int),.int .u64 (a:Int),.int .u64 (l:Int)] 121;simp only[Q_]at Z hR hO;have m':((((w.alloc (.cells #[.int .i64 g,.slice A0 n0 c0,.int .u64 (f:Int),.int .u64 (c:Int),.int .u64 (a:Int),.int .u64 (l:Int)] 121)).alloc (.cells #[.slice D m d,.slice A2 U c2,.int .i64 G,.int .u64 (F:Int),.int .u64 (C:Int),.int .u64 (AA:Int),.int .u64 (L:Int)] 131)).alloc (.cells #[.int .i64 0,.slice none 0 0,.int .u64 0,.int .u64 0,.int .u64 0,.int .u64 0] 121)).alloc (.cells #[.int .i64 g,.slice A0 n0 c0,.int .u64 (f:Int),.int .u64 (c:Int),.int .u64 (a:Int),.int .u64 (l:Int)] 121)).heap.size=w.heap.size+1+1+1+1:=by simp
 refine bz (vw rfl _ (.tmp 14) _ rfl (w.heap.size+1+1+1+1) 89 i0 _ 2 16 underlying119 m3 m4 m5 m6 rfl o_ ((((w.alloc (.cells #[.int .i64 g,.slice A0 n0 c0,.int .u64 (f:Int),.int .u64 (c:Int),.int .u64 (a:Int),.int .u64 (l:Int)] 121)).alloc (.cells #[.slice D m d,.slice A2 U c2,.int .i64 G,.int .u64 (F:Int),.int .u64 (C:Int),.int .u64 (AA:Int),.int .u64 (L:Int)] 131)).alloc (.cells #[.int .i64 0,.slice none 0 0,.int .u64 0,.int .u64 0,.int .u64 0,.int .u64 0] 121)).alloc (.cells #[.int .i64 g,.slice A0 n0 c0,.int .u64 (f:Int),.int .u64 (c:Int),.int .u64 (a:Int),.int .u64 (l:Int)] 121)) b0_ (by rw[m'];exact y_ _) rfl w.heap.size A0 n0 c0 (dw d8) rfl (j3.below j8) (ek1 _) (by unfold maxLen;omega) o_ ?_);intro A1 k1 w1 j9 e9 s7 x9 x';have i8:Below w.heap.size w w1:=j8.trans (e9.mono o_);have j':BoxO w1 _ _ _:=(e9.block (w.heap.size+1) o_).trans Z;have n4:BoxO w1 _ _ _:=(e9.block (w.heap.size+1+1) o_).trans hR;have e':BoxO w1 _ _ _:=(e9.block (w.heap.size+1+1+1) o_).trans hO;clear j8 Z hR hO m' e9 s7;have q0:=e'.c1;have z0:=e'.free 1;have p0:=j'.c0;have v3:=e'.lt;have k0:=e'.store 1 (.slice A1 n0 k1);have I:=xw w1 ⟨w.heap.size+1+1+1,1,none⟩ (.slice A1 n0 k1);have n6:=j'.chg I s_;have a0:=n4.chg I s_;have i9:=i8.setCell (p:=⟨w.heap.size+1+1+1,1,none⟩) (by simp;omega) (.slice A1 n0 k1);have n7:=jy j9 I (fun g hg h=>by
  have:=(j9.lt g hg).1;simp at h;omega)
 simp only[aD_,aJ_]at k0;clear e' j' n4 i8 j9 I;go_wp2_with fail;clear q0 z0 p0;generalize w1.setCell ⟨w.heap.size+1+1+1,1,none⟩ (.slice A1 n0 k1)=W at *
 go_loopw [20] (fun i wr=>∃(k N cp:Nat) (A':Option Addr) (fs:List (Int×Int)),k<=m/\i=.int .i64 (k:Int)/\Hid (dropAll (ds.take k) d8=some fs)/\N<=n0/\BoxO wr 121 (w.heap.size+1+1+1) [.int .i64 g,.slice A' N cp,.int .u64 (f:Int),.int .u64 (c:Int),.int .u64 (a:Int),.int .u64 (l:Int)]/\wr.ownsRow (w.heap.size+1+1+1+1) 89 2 (.slice A' N cp) N (dw fs)/\BoxO wr 131 (w.heap.size+1) [.slice D m d,.slice A2 U c2,.int .i64 G,.int .u64 (F:Int),.int .u64 (C:Int),.int .u64 (AA:Int),.int .u64 (L:Int)]/\BoxO wr 121 (w.heap.size+1+1) [.int .i64 0,.slice none 0 0,.int .u64 0,.int .u64 0,.int .u64 0,.int .u64 0]/\Below w.heap.size w wr) (fun i _=>m - (intOf i).toNat)
 case atStart=>exact⟨0,n0,k1,A1,d8,w_ _,rfl,H_ rfl,y_ _,k0,n7,n6,a0,i9⟩
 case round=>
  obtain⟨k,N,cp,A',fs,hk,rfl,g8,hN,hO,ho,Z,hR,f5⟩:=hrel;clear k0 n6 a0 i9 n7;obtain⟨_,_,s9,s',t0,t1⟩:=gz ho;injection s9 with n8 n9 n';subst n8 n';clear n9;have q1:=hO.c1;have z1:=hO.free 1;have v4:=hO.lt
  by_cases o6:k < m
  ·obtain⟨da,hl,rfl,y8,y9⟩:=(j4.below f5).int_ o6
   have k3:=j6.out k hl;rw[g8.out]at k3;have o7:=j7.out (k+1);generalize ds[k]=x at *;have k4:Hid (dropAll (ds.take (k+1)) d8=drop1 x fs):=H_ k3;have o8:=H_ o7;clear k3 o7 g8 hl;have y':=(Row.own ho).flen;have o9:=(Row.own ho).alloc l_ (.cells #[.int .i64 x] 3);have o':(wr.alloc (.cells #[.int .i64 x] 3)).cell? ⟨wr.heap.size,0,none⟩=some (.int .i64 x):=(BoxO.new wr #[.int .i64 x] 3).cell 0;have p8:=b_ wr (.cells #[.int .i64 x] 3);have d9:=uk3 235 (fun _ _=>rfl) ⟨wr.heap.size,0,none⟩ (fun f=>f.2==x) A' N cp fs (wr.alloc (.cells #[.int .i64 x] 3)) o_ (o9.up s_) (fun f w2 Q=>px5 f ⟨wr.heap.size,0,none⟩ x w2 ((Q.cell (p:=⟨wr.heap.size,0,none⟩) s_).trans o'));have k6:=hO.alloc (.cells #[.int .i64 x] 3);have k7:=Z.alloc (.cells #[.int .i64 x] 3);have h6:=hR.alloc (.cells #[.int .i64 x] 3);have k8:=ho.alloc (.cells #[.int .i64 x] 3);have d6:=az f5 p8;clear o9 o' p8 hO Z hR ho f5
   cases a7:fs.any (fun f=>f.2==x) with
   |false=>
    rw[bj1 a7]at d9;have p9:AP=none:=e6.out (o8.out (by rw[k4.out,drop1,a7];rfl));have t2:=H_ p9;clear p9 a7;go_wp2_with fail;refine d9.mono ?_;rintro e w2 ⟨rfl,Q⟩;have a1:=h6.below Q;have t3:=az d6 Q;have r0:=a1.c0;have r1:=a1.c1;have r2:=a1.c2;have r3:=a1.c3;have r4:=a1.c4;have r5:=a1.c5;have y0:=a1.free 0;have y1:=a1.free 1;have y2:=a1.free 2;have y3:=a1.free 3;have y4:=a1.free 4;have y5:=a1.free 5;clear d9 Q k6 k7 h6 k8 d6 q1 z1 a1;go_wp2_with fail;refine bodyPost_ret (v:=.tuple #[.agg #[.int .i64 0,.slice none 0 0,.int .u64 0,.int .u64 0,.int .u64 0,.int .u64 0],.bool false]) (by simp[results,go_sem, *]) rfl ?_;unfold uv3;rw[t2.out];exact⟨(((((t3.setCell (by simp;omega) _).setCell (by simp;omega) _).setCell (by simp;omega) _).setCell (by simp;omega) _).setCell (by simp;omega) _).setCell (by simp;omega) _,rfl⟩
   |true=>
    obtain⟨i,p',t4,t5,q2⟩:=mv3 a7;rw[p']at d9;have t6:i < N:=o_
    have q3:=kx4 t4 q2;have q4:dropAll (ds.take (k+1)) d8=some (fs.eraseIdx i):=by rw[k4.out,drop1,a7,if_pos rfl,q3]
    have t7:=H_ q4;clear p' t5 q2 q3 q4 a7 k4 o8;go_wp2_with fail;refine d9.mono ?_;rintro e w2 ⟨rfl,Q⟩;have b9:=k6.below Q;have f6:=k7.below Q;have f7:=h6.below Q;have d':=own_below k8 Q;have a8:=az d6 Q;clear d9 Q k6 k7 h6 k8 d6 q1 z1
    rcases d'.2 with ⟨J,h0⟩|⟨gg,cap,cur,J,z',q5,_⟩
    ·omega
    injection J with t8 t9 t';subst t8 t';clear t9;have v6:gg < w2.heap.size:=(A_.1 q5).1;have q1:=b9.c1;have i':=ax5 (w.heap.size+1+1+1+1) gg N cp i fs w2 d' t6;clear q5 d';go_wp2_with fail;refine i'.mono ?_;rintro e w3 ⟨rfl,k9,f8⟩;have h7:=b9.chg f8 (by simp;omega);have q6:=f6.chg f8 (by simp;omega);have q7:=f7.chg f8 (by simp;omega);have j1:=a8.trans (f8.below a8.size (by intro q hq;simp at hq;omega));clear i' b9 f6 f7 a8 f8 q1;have q1:=h7.c1;have z1:=h7.free 1;have I:=xw w3 ⟨w.heap.size+1+1+1,1,none⟩ (.slice (some ⟨gg,0,none⟩) (N - 1) cp);have a6:=h7.store 1 (.slice (some ⟨gg,0,none⟩) (N - 1) cp);simp only[aD_,aJ_]at a6;have d2:=q6.chg I s_;have e3:=q7.chg I s_;have u0:=jy k9 I (fun q hq h=>by
     have:=(k9.lt q hq).1;simp at h;omega)
    have a9:=j1.setCell (p:=⟨w.heap.size+1+1+1,1,none⟩) (by simp;omega) (.slice (some ⟨gg,0,none⟩) (N - 1) cp);clear h7 q6 q7 k9 j1 I;go_wp2_with fail;go_roundw
    case rel=>exact⟨k+1,N - 1,cp,some ⟨gg,0,none⟩,fs.eraseIdx i,o_,by go_num,t7,o_,a6,u0,d2,e3,a9⟩
    case measure=>simp[intOf];omega
  ·obtain rfl:m=k:=o_
   have f9:dropAll ds d8=some fs:=by have h:=g8.out;rwa [g_ o_]at h
   have b0:=a4.out fs f9;have q8:=H_ b0;clear f9 b0 g8 e6 a4 j6 j7;have p1:=Z.c1;go_wp2_with (at_builtin;refine iy ?_);refine bz (iq rfl (.tmp 40) (.tmp 42) _ rfl (w.heap.size+1+1+1+1) 89 i0 _ 2 16 underlying119 m3 m4 m5 m6 rfl o_ wr b0_ o_ _ N (dw fs) rfl ho w.heap.size A2 U c2 (dw ad) rfl (j5.below f5) (ek1 _) (N+U) (dw (fs++ad)) rfl (yv1 _ _).symm (by unfold maxLen;omega) o_ ?_);intro A3 c3 w3 d' c9 u2 u3 u4;have a8:=f5.trans (c9.mono o_);have f6:BoxO w3 _ _ _:=(c9.block _ o_).trans Z;have f7:BoxO w3 _ _ _:=(c9.block _ o_).trans hR;have b9:BoxO w3 _ _ _:=(c9.block _ o_).trans hO;have k':=dz2 d' l_;clear ho Z hR hO c9 u2 q1 z1 p1 d';go_wp2_with fail;refine(aw5 A3 (N+U) c3 w3 u3 u4).mono ?_;rintro e w4 ⟨rfl,rfl⟩;have q1:=b9.c1;have z1:=b9.free 1;have I:=xw w3 ⟨w.heap.size+1+1+1,1,none⟩ (.slice A3 (N+U) (N+U));have a6:=b9.store 1 (.slice A3 (N+U) (N+U));simp only[aD_,aJ_]at a6;have d2:=f6.chg I s_;have e3:=f7.chg I s_;have g0:=k'.chg I (fun q hq h=>by
    have:=k'.low q hq;simp at h;omega)
   have a9:=a8.setCell (p:=⟨w.heap.size+1+1+1,1,none⟩) (by simp;omega) (.slice A3 (N+U) (N+U));clear b9 f6 f7 a8 I k';have p2:=d2.c2;obtain⟨g',q9⟩:=n_ ((if G=0 then g else G));have HG:=H_ q9;clear q9;go_upto_if 48 with (fail)
   generalize w3.setCell ⟨w.heap.size+1+1+1,1,none⟩ (.slice A3 (N+U) (N+U))=W5 at *;clear q1 z1 s' t0 t1
   go_cut [] (fun wx=>BoxO wx 121 (w.heap.size+1+1+1) [.int .i64 g',.slice A3 (N+U) (N+U),.int .u64 (f:Int),.int .u64 (c:Int),.int .u64 (a:Int),.int .u64 (l:Int)]/\BoxO wx 131 (w.heap.size+1) [.slice D m d,.slice A2 U c2,.int .i64 G,.int .u64 (F:Int),.int .u64 (C:Int),.int .u64 (AA:Int),.int .u64 (L:Int)]/\BoxO wx 121 (w.heap.size+1+1) [.int .i64 0,.slice none 0 0,.int .u64 0,.int .u64 0,.int .u64 0,.int .u64 0]/\lq1 (w.heap.size+1+1+1+1) wx A3 (N+U) c3 (fs++ad)/\Below w.heap.size w wx)
   case first=>
    by_cases hG:G=0
    ·have e0:(G !=0)=false:=by simp[hG]
     have e1:g'=g:=by rw[HG.out,if_pos hG]
     subst e1;subst hG;clear HG e0;go_wp2_with fail
     go_meet
     exact⟨a6,d2,e3,g0,a9⟩
    ·have e0:(G !=0)=true:=by simpa using hG
     have e1:g'=G:=by rw[HG.out,if_neg hG]
     subst e1;have q0:=a6.c0;have z0:=a6.free 0;have I:=xw W5 ⟨w.heap.size+1+1+1,0,none⟩ (.int .i64 g');have e5:=a6.store 0 (.int .i64 g');simp only[aJ_]at e5;have d3:=d2.chg I s_;have h8:=e3.chg I s_;have h9:=g0.chg I (fun q hq h=>by
      have:=g0.low q hq;simp at h;omega)
     have d0:=a9.setCell (p:=⟨w.heap.size+1+1+1,0,none⟩) (by simp;omega) (.int .i64 g');clear HG hG I a6 d2 e3 g0 a9;go_wp2_with fail
     go_meet
     exact⟨e5,d3,h8,h9,d0⟩
   case rest=>
    obtain⟨e5,d3,h8,h9,d0⟩:=hcut;clear a6 d2 e3 g0 a9 p2;have p3:=d3.c3;have p4:=d3.c4;have p5:=d3.c5;have p6:=d3.c6;have q':=e5.lt;have hQ:=BoxO.new wc #[.int .u64 (F:Int),.pointer (some ⟨w.heap.size+1+1+1,2,none⟩),.int .u64 (C:Int),.pointer (some ⟨w.heap.size+1+1+1,3,none⟩),.int .u64 (AA:Int),.pointer (some ⟨w.heap.size+1+1+1,4,none⟩),.int .u64 (L:Int),.pointer (some ⟨w.heap.size+1+1+1,5,none⟩)] 305;have r6:=e5.alloc (.cells #[.int .u64 (F:Int),.pointer (some ⟨w.heap.size+1+1+1,2,none⟩),.int .u64 (C:Int),.pointer (some ⟨w.heap.size+1+1+1,3,none⟩),.int .u64 (AA:Int),.pointer (some ⟨w.heap.size+1+1+1,4,none⟩),.int .u64 (L:Int),.pointer (some ⟨w.heap.size+1+1+1,5,none⟩)] 305);have r7:=h8.alloc (.cells #[.int .u64 (F:Int),.pointer (some ⟨w.heap.size+1+1+1,2,none⟩),.int .u64 (C:Int),.pointer (some ⟨w.heap.size+1+1+1,3,none⟩),.int .u64 (AA:Int),.pointer (some ⟨w.heap.size+1+1+1,4,none⟩),.int .u64 (L:Int),.pointer (some ⟨w.heap.size+1+1+1,5,none⟩)] 305);have l1:=h9.below (b_ wc (.cells #[.int .u64 (F:Int),.pointer (some ⟨w.heap.size+1+1+1,2,none⟩),.int .u64 (C:Int),.pointer (some ⟨w.heap.size+1+1+1,3,none⟩),.int .u64 (AA:Int),.pointer (some ⟨w.heap.size+1+1+1,4,none⟩),.int .u64 (L:Int),.pointer (some ⟨w.heap.size+1+1+1,5,none⟩)] 305));have g2:=d0.alloc d0.size (.cells #[.int .u64 (F:Int),.pointer (some ⟨w.heap.size+1+1+1,2,none⟩),.int .u64 (C:Int),.pointer (some ⟨w.heap.size+1+1+1,3,none⟩),.int .u64 (AA:Int),.pointer (some ⟨w.heap.size+1+1+1,4,none⟩),.int .u64 (L:Int),.pointer (some ⟨w.heap.size+1+1+1,5,none⟩)] 305);clear e5 h8 h9 d0;go_wp2_with fail;clear p3 p4 p5 p6 d3;obtain⟨qb,l2⟩:=n_ wc.heap.size;have A6:w.heap.size+1+1+1 < qb:=o_
    simp only[<-l2]at hQ ⊢;change Code.wp _ _ _ _ (wc.alloc (.cells #[.int .u64 (F:Int),.pointer (some ⟨w.heap.size+1+1+1,2,none⟩),.int .u64 (C:Int),.pointer (some ⟨w.heap.size+1+1+1,3,none⟩),.int .u64 (AA:Int),.pointer (some ⟨w.heap.size+1+1+1,4,none⟩),.int .u64 (L:Int),.pointer (some ⟨w.heap.size+1+1+1,5,none⟩)] 305));generalize wc.alloc (.cells #[.int .u64 (F:Int),.pointer (some ⟨w.heap.size+1+1+1,2,none⟩),.int .u64 (C:Int),.pointer (some ⟨w.heap.size+1+1+1,3,none⟩),.int .u64 (AA:Int),.pointer (some ⟨w.heap.size+1+1+1,4,none⟩),.int .u64 (L:Int),.pointer (some ⟨w.heap.size+1+1+1,5,none⟩)] 305)=V at *;have A7:=H_ l2;clear l2 q';obtain⟨f',l3⟩:∃x,orElse F f=x:=⟨_,rfl⟩;obtain⟨c',l4⟩:∃x,orElse C c=x:=⟨_,rfl⟩;obtain⟨a',l5⟩:∃x,orElse AA a=x:=⟨_,rfl⟩;obtain⟨l',l6⟩:∃x,orElse L l=x:=⟨_,rfl⟩;have b0:=q8.out;rw[l3,l4,l5,l6,<-HG.out]at b0;have a4:=H_ b0;have HF:=H_ l3;have HC:=H_ l4;have HA:=H_ l5;have HL:=H_ l6;clear b0 q8 l3 l4 l5 l6 HG
    go_loopw [70] (fun i wr=>∃k x0 x1 x2 x3:Nat,k<=4/\i=.int .i64 (k:Int)/\BoxO wr 121 (w.heap.size+1+1+1) [.int .i64 g',.slice A3 (N+U) (N+U),.int .u64 (x0:Int),.int .u64 (x1:Int),.int .u64 (x2:Int),.int .u64 (x3:Int)]/\
     Hid (x0=(if 0 < k then f' else f)/\x1=(if 1 < k then c' else c)/\x2=(if 2 < k then a' else a)/\x3=(if 3 < k then l' else l))/\Chg [w.heap.size+1+1+1] V wr) (fun i _=>4 - (intOf i).toNat)
    case atStart=>exact⟨0,f,c,a,l,o_,rfl,r6,H_ ⟨rfl,rfl,rfl,rfl⟩,Chg.refl _ _⟩
    case round=>
     obtain⟨k,x0,x1,x2,x3,hk,rfl,H,hx,O⟩:=hrel;have b7:=hQ.chg O (by simp;omega);have r8:=r7.chg O s_;have o6:=H.lt;have o0:=H.c0;have z0:=H.free 0;have o1:=H.c1;have z1:=H.free 1;have o2:=H.c2;have z2:=H.free 2;have o3:=H.c3;have z3:=H.free 3;have o4:=H.c4;have z4:=H.free 4;have o5:=H.c5;have z5:=H.free 5;have p0:=b7.c0;have p1:=b7.c1;have p2:=b7.c2;have p3:=b7.c3;have p4:=b7.c4;have p5:=b7.c5;have p6:=b7.c6;have p7:=b7.c7
     rcases (by omega:k=0\/k=1\/k=2\/k=3\/k=4) with rfl|rfl|rfl|rfl|rfl
     ·have he:orElse F f=f':=HF.out
      have E:x0=(if 0 < 0 then f' else f)/\x1=(if 1 < 0 then c' else c)/\x2=(if 2 < 0 then a' else a)/\x3=(if 3 < 0 then l' else l):=hx.out;have HX:=H_ E
      by_cases Z:F=0
      ·have e1:((F:Int)==0)=true:=by simp[Z]
       have e2:(!((F:Int)==0))=false:=by rw[e1];rfl
       have J:f=f':=by rw[<-he,Z];rfl
       have HV:=H_ J;clear J he Z E hx;go_wp2_with fail;go_roundw
       case rel=>
        refine⟨1,x0,x1,x2,x3,o_,rfl,H.alloc _,H_ ?_,O.alloc _⟩;have E:=HX.out;have J:=HV.out;simp at E ⊢;simp[E,J]
       case measure=>simp[intOf]
      ·have e1:((F:Int)==0)=false:=by simp;omega
       have e2:(!((F:Int)==0))=true:=by rw[e1];rfl
       have J:F=f':=by rw[<-he,qv1 Z]
       have HV:=H_ J;clear J he Z E hx;go_wp2_with fail;go_roundw
       case rel=>
        refine⟨1,F,x1,x2,x3,o_,rfl,(H.store 2 _).alloc _,H_ ?_,(O.setCell _ (.inl s_)).alloc _⟩;have E:=HX.out;have J:=HV.out;simp at E ⊢;simp[E,J]
       case measure=>simp[intOf]
     ·have he:orElse C c=c':=HC.out
      have E:x0=(if 0 < 1 then f' else f)/\x1=(if 1 < 1 then c' else c)/\x2=(if 2 < 1 then a' else a)/\x3=(if 3 < 1 then l' else l):=hx.out;have HX:=H_ E
      by_cases Z:C=0
      ·have e1:((C:Int)==0)=true:=by simp[Z]
       have e2:(!((C:Int)==0))=false:=by rw[e1];rfl
       have J:c=c':=by rw[<-he,Z];rfl
       have HV:=H_ J;clear J he Z E hx;go_wp2_with fail;go_roundw
       case rel=>
        refine⟨2,x0,x1,x2,x3,o_,rfl,H.alloc _,H_ ?_,O.alloc _⟩;have E:=HX.out;have J:=HV.out;simp at E ⊢;simp[E,J]
       case measure=>simp[intOf]
      ·have e1:((C:Int)==0)=false:=by simp;omega
       have e2:(!((C:Int)==0))=true:=by rw[e1];rfl
       have J:C=c':=by rw[<-he,qv1 Z]
       have HV:=H_ J;clear J he Z E hx;go_wp2_with fail;go_roundw
       case rel=>
        refine⟨2,x0,C,x2,x3,o_,rfl,(H.store 3 _).alloc _,H_ ?_,(O.setCell _ (.inl s_)).alloc _⟩;have E:=HX.out;have J:=HV.out;simp at E ⊢;simp[E,J]
       case measure=>simp[intOf]
     ·have he:orElse AA a=a':=HA.out
      have E:x0=(if 0 < 2 then f' else f)/\x1=(if 1 < 2 then c' else c)/\x2=(if 2 < 2 then a' else a)/\x3=(if 3 < 2 then l' else l):=hx.out;have HX:=H_ E
      by_cases Z:AA=0
      ·have e1:((AA:Int)==0)=true:=by simp[Z]
       have e2:(!((AA:Int)==0))=false:=by rw[e1];rfl
       have J:a=a':=by rw[<-he,Z];rfl
       have HV:=H_ J;clear J he Z E hx;go_wp2_with fail;go_roundw
       case rel=>
        refine⟨3,x0,x1,x2,x3,o_,rfl,H.alloc _,H_ ?_,O.alloc _⟩;have E:=HX.out;have J:=HV.out;simp at E ⊢;simp[E,J]
       case measure=>simp[intOf]
      ·have e1:((AA:Int)==0)=false:=by simp;omega
       have e2:(!((AA:Int)==0))=true:=by rw[e1];rfl
       have J:AA=a':=by rw[<-he,qv1 Z]
       have HV:=H_ J;clear J he Z E hx;go_wp2_with fail;go_roundw
       case rel=>
        refine⟨3,x0,x1,AA,x3,o_,rfl,(H.store 4 _).alloc _,H_ ?_,(O.setCell _ (.inl s_)).alloc _⟩;have E:=HX.out;have J:=HV.out;simp at E ⊢;simp[E,J]
       case measure=>simp[intOf]
     ·have he:orElse L l=l':=HL.out
      have E:x0=(if 0 < 3 then f' else f)/\x1=(if 1 < 3 then c' else c)/\x2=(if 2 < 3 then a' else a)/\x3=(if 3 < 3 then l' else l):=hx.out;have HX:=H_ E
      by_cases Z:L=0
      ·have e1:((L:Int)==0)=true:=by simp[Z]
       have e2:(!((L:Int)==0))=false:=by rw[e1];rfl
       have J:l=l':=by rw[<-he,Z];rfl
       have HV:=H_ J;clear J he Z E hx;go_wp2_with fail;go_roundw
       case rel=>
        refine⟨4,x0,x1,x2,x3,o_,rfl,H.alloc _,H_ ?_,O.alloc _⟩;have E:=HX.out;have J:=HV.out;simp at E ⊢;simp[E,J]
       case measure=>simp[intOf]
      ·have e1:((L:Int)==0)=false:=by simp;omega
       have e2:(!((L:Int)==0))=true:=by rw[e1];rfl
       have J:L=l':=by rw[<-he,qv1 Z]
       have HV:=H_ J;clear J he Z E hx;go_wp2_with fail;go_roundw
       case rel=>
        refine⟨4,x0,x1,x2,L,o_,rfl,(H.store 5 _).alloc _,H_ ?_,(O.setCell _ (.inl s_)).alloc _⟩;have E:=HX.out;have J:=HV.out;simp at E ⊢;simp[E,J]
       case measure=>simp[intOf]
     ·have E:x0=(if 0 < 4 then f' else f)/\x1=(if 1 < 4 then c' else c)/\x2=(if 2 < 4 then a' else a)/\x3=(if 3 < 4 then l' else l):=hx.out
      simp at E;obtain⟨rfl,rfl,rfl,rfl⟩:=E;have r9:Below w.heap.size w wr:=g2.trans (O.below g2.size (by intro q hq;simp at hq;omega));have g5:=l1.chg O (fun q hq h=>by
       have:=l1.low q hq;simp at h;omega)
      have g6:=ow5 ⟨g',fs++ad,x0,x1,x2,x3⟩ A3 (N+U) (N+U) wr o_ l_ (j_ g5.nc g5.cm) g5.row;unfold Vw.val at g6;simp only at g6;have b0:=a4.out;generalize r':(⟨g',fs++ad,x0,x1,x2,x3⟩:Vw)=u at *;obtain⟨ob,l8⟩:=n_ u.ok;rw[<-l8]at g6;have s0:=H_ l8;have s1:=H_ r';have j2:=H_ b0;clear hx r' l8 b0 a4;clear p0 p1 p2 p3 p4 p5 p6 p7 z0 z1 z2 z3 z4 z5 b7 hQ r6 r7 l1 g2 O;go_wp2_with fail;refine g6.mono ?_;rintro e w2 ⟨rfl,Q⟩;have d5:=H.below Q;have a0:=r8.below Q;have s2:=g5.below Q;have c9:=az r9 Q;clear g6 o0 o1 o2 o3 o4 o5 H r8 g5 Q r9;have o0:=d5.c0;have r0:=a0.c0;have z0:=a0.free 0;have o1:=d5.c1;have r1:=a0.c1;have z1:=a0.free 1;have o2:=d5.c2;have r2:=a0.c2;have z2:=a0.free 2;have o3:=d5.c3;have r3:=a0.c3;have z3:=a0.free 3;have o4:=d5.c4;have r4:=a0.c4;have z4:=a0.free 4;have o5:=d5.c5;have r5:=a0.c5;have z5:=a0.free 5;clear d5 a0
      cases ob with
      |false=>
       go_wp2_with fail;refine bodyPost_ret (v:=.tuple #[.agg #[.int .i64 0,.slice none 0 0,.int .u64 0,.int .u64 0,.int .u64 0,.int .u64 0],.bool false]) (by simp[results,go_sem, *]) rfl ?_;unfold uv3;rw[j2.out,<-s0.out,if_neg s_];exact⟨(((((c9.setCell (by simp;omega) _).setCell (by simp;omega) _).setCell (by simp;omega) _).setCell (by simp;omega) _).setCell (by simp;omega) _).setCell (by simp;omega) _,rfl⟩
      |true=>
       go_wp2_with fail;refine bodyPost_ret (v:=.tuple #[.agg #[.int .i64 g',.slice A3 (N+U) (N+U),.int .u64 (x0:Int),.int .u64 (x1:Int),.int .u64 (x2:Int),.int .u64 (x3:Int)],.bool true]) (by simp[results,go_sem, *]) rfl ?_;unfold uv3;rw[j2.out,<-s0.out,if_pos rfl];refine⟨(((((c9.setCell (by simp;omega) _).setCell (by simp;omega) _).setCell (by simp;omega) _).setCell (by simp;omega) _).setCell (by simp;omega) _).setCell (by simp;omega) _,A3,N+U,N+U,by rw[<-s1.out];rfl,?_⟩;have v1:∀q,A3=some q->q.block≠w.heap.size+1+1:=fun q hq=>by
        have:=s2.low q hq;omega
       have I:=(((((xw w2 ⟨w.heap.size+1+1,0,none⟩ (.int .i64 g')).setCell (p:=⟨w.heap.size+1+1,1,none⟩) (.slice A3 (N+U) (N+U)) (.inl s_)).setCell (p:=⟨w.heap.size+1+1,2,none⟩) (.int .u64 (x0:Int)) (.inl s_)).setCell (p:=⟨w.heap.size+1+1,3,none⟩) (.int .u64 (x1:Int)) (.inl s_)).setCell (p:=⟨w.heap.size+1+1,4,none⟩) (.int .u64 (x2:Int)) (.inl s_)).setCell (p:=⟨w.heap.size+1+1,5,none⟩) (.int .u64 (x3:Int)) (.inl s_);have i4:=s2.chg I (fun q hq h=>v1 q hq (by simpa using h));rw[<-s1.out];exact⟨i4.row,y_ _,j_ i4.nc i4.cm,fun q hq=>by have:=i4.low q hq;omega⟩
theorem zz2 {P:Program} {ops:Array Oper} {o:Oper} {a:Act} {w:World} {K:Act->World->Prop} {Q:Exit->Act->World->Prop} {E:Prop} (Z:o.guard=none) (s x:Operand) (t:TypeId)
  (ho:o.op=.call { callee:=.builtin .append,args:=#[s,x],argTypes:=#[t,t] })
  (base:Nat) (e:TypeId) (i:TypeInfo) (z:Value) (size bytes:Nat) (ht:P.underlying t=some (.slice e)) (hi:P.info? e=some i) (hz:i.zero=some z)
  (I:i.size=size) (a0:i.bytes=bytes) (a1:z.cells.size=size) (a2:0 < size) (J:base<=w.heap.size) (v:Value) (n:Nat) (xs:List Value) (hs:a.eval s=v) (O:w.ownsRow base e size v n xs)
  (B:Nat) (A:Option Addr) (m c:Nat) (news:List Value) (hx:a.eval x=.slice A m c) (hr:Row B w A m size news) (h1:∀u∈news,u.oneCell'=true)
  (N:Nat) (X:List Value) (hN:n+m=N) (hX:xs++news=X) (a4:N<=maxLen) (C:N *bytes<=140737488355328)
  (h:∀A' H w',w'.ownsRow base e size (.slice A' N H) N X->w.grownBy w' v.ownBlock->N<=H->H<=maxLen->((Value.slice A' N H).ownBlock=v.ownBlock\/(Value.slice A' N H).ownBlock=some w.heap.size)->K (a.put o.dst (.slice A' N H)) w'):
  if Region.wanted o (yielded ops a.tmps)=true then Oper.wp P o a w K Q else E:=by
 have hw:Region.wanted o (yielded ops a.tmps)=true:=by simp[Region.wanted,Z]
 rw[if_pos hw];subst hN;subst hX;obtain⟨A',H,w',U,h3,h4,h5,h7,h6⟩:=uy2 (P:=P) w base t o.type e i z size bytes ht hi hz I a0 a1 a2 v n xs O B A m c news hr h1 a4 C J;unfold Oper.wp execOp;simp only[ho,resolve,invoke,builtin,Sem.run_bind,Sem.run_pure,Result.andThen_ok,bI_,Z_,bO_,hs,hx,U];exact h A' H w' h3 h4 h5 h7 h6
theorem lq1.base {B B' n c:Nat} {w:World} {A:Option Addr} {fs:List (Int×Int)} (h:lq1 B w A n c fs) (C:B'<=B):lq1 B' w A n c fs:=⟨h.row,h.nc,h.cm,fun a E=>j_ C (h.low a E)⟩
theorem BoxO.grown {w w':World} {e:TypeId} {g:Nat} {xs:List Value} (h:BoxO w e g xs) (C:w.grownBy w' none):BoxO w' e g xs:=(C.block g h.lt s_).trans h
theorem sy4 (v:Vw) (A:Option Addr) (n c:Nat) (w:World) (hn:n<=100000) (hr:Row w.heap.size w A n 2 (dw v.files)):
  Calls prog 117 #[v.val A n c] w fun e w'=>∃A' c',e=.returned (v.val A' n c')/\lq1 w.heap.size w' A' n c' v.files/\Below w.heap.size w w':=by
 obtain⟨i0,a4,a5,a6,a7⟩:=info_parts nk1;obtain⟨g,fs,f,H,a,l⟩:=v;unfold Vw.val;simp only at hr ⊢;go_enter func117,ntmps117;go_wp2_with (at_builtin;refine iy ?_);have I:Below w.heap.size w ((w.alloc (.cells #[.int .i64 g,.slice A n c,.int .u64 (f:Int),.int .u64 (H:Int),.int .u64 (a:Int),.int .u64 (l:Int)] 121)).alloc (.cells #[.int .i64 0,.slice none 0 0,.int .u64 0,.int .u64 0,.int .u64 0,.int .u64 0] 121)):=(b_ _ _).alloc s_ _;have hP:=(BoxO.new w #[.int .i64 g,.slice A n c,.int .u64 (f:Int),.int .u64 (H:Int),.int .u64 (a:Int),.int .u64 (l:Int)] 121).alloc (.cells #[.int .i64 0,.slice none 0 0,.int .u64 0,.int .u64 0,.int .u64 0,.int .u64 0] 121);have hR:=BoxO.new (w.alloc (.cells #[.int .i64 g,.slice A n c,.int .u64 (f:Int),.int .u64 (H:Int),.int .u64 (a:Int),.int .u64 (l:Int)] 121)) #[.int .i64 0,.slice none 0 0,.int .u64 0,.int .u64 0,.int .u64 0,.int .u64 0] 121;simp only[Q_]at hR;have O:((w.alloc (.cells #[.int .i64 g,.slice A n c,.int .u64 (f:Int),.int .u64 (H:Int),.int .u64 (a:Int),.int .u64 (l:Int)] 121)).alloc (.cells #[.int .i64 0,.slice none 0 0,.int .u64 0,.int .u64 0,.int .u64 0,.int .u64 0] 121)).heap.size=w.heap.size+1+1:=by simp
 refine bz (vw rfl _ (.tmp 4) _ rfl (w.heap.size+1+1) 89 i0 _ 2 16 underlying119 a4 a5 a6 a7 rfl o_ ((w.alloc (.cells #[.int .i64 g,.slice A n c,.int .u64 (f:Int),.int .u64 (H:Int),.int .u64 (a:Int),.int .u64 (l:Int)] 121)).alloc (.cells #[.int .i64 0,.slice none 0 0,.int .u64 0,.int .u64 0,.int .u64 0,.int .u64 0] 121)) b0_ (by rw[O];exact y_ _) rfl w.heap.size A n c (dw fs) rfl (hr.below I) (ek1 _) (by unfold maxLen;omega) o_ ?_);intro A1 k1 Q U Z J b3 b5;have a0:Below w.heap.size w Q:=I.trans (Z.mono o_);have E:BoxO Q _ _ _:=hP.grown J;have C:BoxO Q _ _ _:=hR.grown J;have hF:=dz2 U l_;clear I hP hR O Z J U;have q0:=E.c0;have q1:=E.c1;have z1:=E.free 1;have q2:=E.c2;have q3:=E.c3;have q4:=E.c4;have q5:=E.c5;have r0:=C.c0;have y0:=C.free 0;have r1:=C.c1;have y1:=C.free 1;have r2:=C.c2;have y2:=C.free 2;have r3:=C.c3;have y3:=C.free 3;have r4:=C.c4;have y4:=C.free 4;have r5:=C.c5;have y5:=C.free 5;clear E C;go_wp2_with fail;refine bodyPost_ret (v:=.agg #[.int .i64 g,.slice A1 n k1,.int .u64 (f:Int),.int .u64 (H:Int),.int .u64 (a:Int),.int .u64 (l:Int)]) (by simp[results,go_sem, *]) rfl ⟨A1,k1,rfl,?_,?_⟩
 ·have a9:Chg [w.heap.size,w.heap.size+1] Q _:=(((((((Chg.refl _ Q).setCell (p:=⟨w.heap.size,1,none⟩) (.slice A1 n k1) (.inl s_)).setCell (p:=⟨w.heap.size+1,0,none⟩) (.int .i64 g) (.inl s_)).setCell (p:=⟨w.heap.size+1,1,none⟩) (.slice A1 n k1) (.inl s_)).setCell (p:=⟨w.heap.size+1,2,none⟩) (.int .u64 (f:Int)) (.inl s_)).setCell (p:=⟨w.heap.size+1,3,none⟩) (.int .u64 (H:Int)) (.inl s_)).setCell (p:=⟨w.heap.size+1,4,none⟩) (.int .u64 (a:Int)) (.inl s_)).setCell (p:=⟨w.heap.size+1,5,none⟩) (.int .u64 (l:Int)) (.inl s_)
  exact(hF.chg a9 (fun q hq h=>by
   have:=hF.low q hq;simp at h;omega)).base o_
 ·exact((((((a0.setCell s_ _).setCell s_ _).setCell s_ _).setCell s_ _).setCell s_ _).setCell s_ _).setCell s_ _
theorem kz31 {P S a oi v} (h:Hv P S a oi v:=by intro w C;have u0:=C.2.c0;have u1:=C.2.c1;have u2:=C.2.c2;have u3:=C.2.c3;have u4:=C.2.c4;have u5:=C.2.c5;go_simp;try (with_reducible rfl)):Hv P S a oi v:=h
theorem qz4 (v:Vw) (A:Option Addr) (n c:Nat) (w:World) (hn:n<=100000) (hr:Row w.heap.size w A n 2 (dw v.files)):
  Calls prog 195 #[v.val A n c] w fun e w'=>∃A' c',e=.returned (v.whole.val none 0 0 A' n c')/\lq1 w.heap.size w' A' n c' v.files/\Below w.heap.size w w':=by
 obtain⟨i0,a7,a8,a9,a'⟩:=info_parts nk1;obtain⟨g,fs,f,I,a,l⟩:=v;unfold Vw.val Vw.whole Ed.val;simp only at hr ⊢;go_enter func195,ntmps195;go_wp2_with fail;change Code.wp _ _ _ _ ((w.alloc (.cells #[.int .i64 g,.slice A n c,.int .u64 (f:Int),.int .u64 (I:Int),.int .u64 (a:Int),.int .u64 (l:Int)] 121)).alloc (.cells #[.slice none 0 0,.slice none 0 0,.int .i64 0,.int .u64 0,.int .u64 0,.int .u64 0,.int .u64 0] 131));have O:Below w.heap.size w ((w.alloc (.cells #[.int .i64 g,.slice A n c,.int .u64 (f:Int),.int .u64 (I:Int),.int .u64 (a:Int),.int .u64 (l:Int)] 121)).alloc (.cells #[.slice none 0 0,.slice none 0 0,.int .i64 0,.int .u64 0,.int .u64 0,.int .u64 0,.int .u64 0] 131)):=(b_ _ _).alloc s_ _;have hP:=(BoxO.new w #[.int .i64 g,.slice A n c,.int .u64 (f:Int),.int .u64 (I:Int),.int .u64 (a:Int),.int .u64 (l:Int)] 121).alloc (.cells #[.slice none 0 0,.slice none 0 0,.int .i64 0,.int .u64 0,.int .u64 0,.int .u64 0,.int .u64 0] 131);have hR:=BoxO.new (w.alloc (.cells #[.int .i64 g,.slice A n c,.int .u64 (f:Int),.int .u64 (I:Int),.int .u64 (a:Int),.int .u64 (l:Int)] 121)) #[.slice none 0 0,.slice none 0 0,.int .i64 0,.int .u64 0,.int .u64 0,.int .u64 0,.int .u64 0] 131;simp only[Q_]at hR;have U:((w.alloc (.cells #[.int .i64 g,.slice A n c,.int .u64 (f:Int),.int .u64 (I:Int),.int .u64 (a:Int),.int .u64 (l:Int)] 121)).alloc (.cells #[.slice none 0 0,.slice none 0 0,.int .i64 0,.int .u64 0,.int .u64 0,.int .u64 0,.int .u64 0] 131)).heap.size=w.heap.size+1+1:=by simp
 have Z:=hr.below O;generalize ((w.alloc (.cells #[.int .i64 g,.slice A n c,.int .u64 (f:Int),.int .u64 (I:Int),.int .u64 (a:Int),.int .u64 (l:Int)] 121)).alloc (.cells #[.slice none 0 0,.slice none 0 0,.int .i64 0,.int .u64 0,.int .u64 0,.int .u64 0,.int .u64 0] 131))=V at *;have a0:=H_ Z.drew;have a1:Hid (w.heap.size+1+1<=V.drew.heap.size):=H_ (bA_ U.symm);clear Z hr U;refine wp_region_held_drew (S:=(fun w'=>Below w.heap.size w w'/\BoxO w' 121 w.heap.size [.int .i64 g,.slice A n c,.int .u64 (f:Int),.int .u64 (I:Int),.int .u64 (a:Int),.int .u64 (l:Int)])) rfl ⟨ak O,hP.drew⟩ (fun C=>?_);refine w_v 0 C ?_ (k:=kz31);go_simp;refine w_v 1 C ?_ (k:=kz31);go_simp;refine w_v 3 C ?_ (k:=kz31);go_simp;refine w_v 4 C ?_ (k:=kz31);go_simp;refine w_v 5 C ?_ (k:=kz31);go_simp;refine w_v 6 C ?_ (k:=kz31);go_simp;refine w_v 7 C ?_ (k:=kz31);go_simp;refine w_v 8 C ?_ (k:=kz31);go_simp;refine w_v 9 C ?_ (k:=kz31);go_simp;refine w_v 10 C ?_ (k:=kz31);go_simp;refine w_v 11 C ?_ (k:=kz31);go_simp;refine w_v 12 C ?_ (k:=kz31);go_simp;refine w_r 2 fun K hK=>?_;refine zz2 rfl (.const (.slice none 0 0)) (.tmp 4) _ rfl (w.heap.size+1+1) 89 i0 _ 2 16 underlying119 a7 a8 a9 a' rfl o_ a1.out (.slice none 0 0) 0 [] rfl (E_ _ _ _ _) w.heap.size A n c (dw fs) rfl a0.out (ek1 _) n _ (an_ _) (C_ _) (by unfold maxLen;omega) o_ ?_;intro A4 c4 w4 H J _ _ _;have a4:=dz2 (B:=w.heap.size+1+1) H l_;have E:BoxO w4 _ _ _:=hR.drew.grown J;have Q:=(⟨C.1.grown J C.1.size (fun k hk=>by cases hk),C.2.grown J⟩:Below w.heap.size w w4/\BoxO w4 121 w.heap.size [.int .i64 g,.slice A n c,.int .u64 (f:Int),.int .u64 (I:Int),.int .u64 (a:Int),.int .u64 (l:Int)]);refine hK.out _ _ Q (fun b2=>?_);clear hK K C b2;have C:=Q;clear Q H J hR hP O a0 a1;go_simp;refine w_v 13 C ?_ (k:=kz31);go_simp;have r0:=E.c0;have y0:=E.free 0;have r1:=E.c1;have y1:=E.free 1;have r2:=E.c2;have y2:=E.free 2;have r3:=E.c3;have y3:=E.free 3;have r4:=E.c4;have y4:=E.free 4;have r5:=E.c5;have y5:=E.free 5;have r6:=E.c6;have y6:=E.free 6;have a5:Chg [w.heap.size+1] w4 _:=(((((((Chg.refl _ w4).setCell (p:=⟨w.heap.size+1,0,none⟩) (.slice none 0 0) (.inl s_)).setCell (p:=⟨w.heap.size+1,1,none⟩) (.slice A4 n c4) (.inl s_)).setCell (p:=⟨w.heap.size+1,2,none⟩) (.int .i64 g) (.inl s_)).setCell (p:=⟨w.heap.size+1,3,none⟩) (.int .u64 (f:Int)) (.inl s_)).setCell (p:=⟨w.heap.size+1,4,none⟩) (.int .u64 (I:Int)) (.inl s_)).setCell (p:=⟨w.heap.size+1,5,none⟩) (.int .u64 (a:Int)) (.inl s_)).setCell (p:=⟨w.heap.size+1,6,none⟩) (.int .u64 (l:Int)) (.inl s_);refine w_r 14 fun K hK=>?_;go_simp;refine hK.out _ _ ⟨(((((((C.1.setCell s_ _).setCell s_ _).setCell s_ _).setCell s_ _).setCell s_ _).setCell s_ _).setCell s_ _),C.2.chg a5 s_⟩ ?_;clear C hK K;intro C;go_simp;refine w_d ?_;go_wp2_with fail;refine bodyPost_ret (v:=.agg #[.slice none 0 0,.slice A4 n c4,.int .i64 g,.int .u64 (f:Int),.int .u64 (I:Int),.int .u64 (a:Int),.int .u64 (l:Int)]) (by simp[results,go_sem, *]) rfl ⟨A4,c4,rfl,?_,C.1⟩;exact(a4.chg a5 (fun q hq h=>by
  have:=a4.low q hq;simp at h;omega)).base o_
def put2 (f:Int×Int):List UInt8:=Pn.put f.1.toNat++Pn.put f.2.toNat
theorem hj4 (ns:List Nat):(Pn.list ns).length<=10+ns.length *10:=by
 have h1:=(Pn.jq ns.length).2;have h2:=ax2 ns;simp only[Pn.list,d_];omega
theorem ij3 {e:Ed} (h:e.may=true):e.drop.length<=40/\e.add.length<=40/\0<=e.log/\e.log<=1073741824/\e.floor<=281474976710656/\e.cert<=281474976710656/\e.at_<=281474976710656/\e.lease<=281474976710656/\
  (∀n∈e.drop,1<=n/\n<=1073741824)/\(∀f∈e.add,0<=f.1/\f.1<=3/\1<=f.2/\f.2<=1073741824):=by
 simp only[Ed.may,bj3,G_,decide_eq_true_eq]at h;obtain⟨⟨⟨⟨⟨h1,h2⟩,h3⟩,h4⟩,h5⟩,C⟩:=h;refine⟨h1,h2,h3.1,h3.2,h4.1.1.1,h4.1.1.2,h4.1.2,h4.2,fun n E=>?_,fun f H=>?_⟩
 ·have:=ab_.1 h5 n E
  simpa [isNum] using this
 ·have:=ab_.1 C f H
  simp only[xq,isNum,G_,decide_eq_true_eq]at this;exact⟨this.2.1,this.2.2,this.1.1,this.1.2⟩
theorem iw5 (A:Option Addr) (N c0:Nat) (e:Ed) (D:Option Addr) (m d:Nat) (A2:Option Addr) (n c:Nat) (w:World) (H:e.may=false) (U:m<=1000000) (Z:n<=1000000) (I:Row w.heap.size w D m 1 (uw e.drop)) (J:Row w.heap.size w A2 n 2 (dw e.add)):
  Calls prog 194 #[.slice A N c0,e.val D m d A2 n c] w fun x w'=>x=.returned (.tuple #[.slice none 0 0,.int .i64 1])/\Below w.heap.size w w':=by
 have C:=fun W (h:Below w.heap.size w W)=>xx4 e D m d A2 n c W U Z ((I.below h).up h.size) ((J.below h).up h.size);rw[H]at C;unfold Ed.val at *;have HM:=H_ C;clear C I J;go_enter func194,ntmps194;have E:=b_ w (.cells #[.slice D m d,.slice A2 n c,.int .i64 e.log,.int .u64 (e.floor:Int),.int .u64 (e.cert:Int),.int .u64 (e.at_:Int),.int .u64 (e.lease:Int)] 131);go_wp2_with fail;refine(HM.out _ E).mono ?_;rintro x w1 ⟨rfl,O⟩;have Q:=az E O;clear E O;go_wp2;exact bodyPost_ret (v:=.tuple #[.slice none 0 0,.int .i64 1]) (by simp[results,go_sem]) rfl ⟨rfl,Q⟩
theorem pw3 (A:Option Addr) (N c0:Nat) (b:List UInt8) (e:Ed) (D:Option Addr) (m d:Nat) (A2:Option Addr) (n c:Nat) (w:World) (O:e.may=true) (d7:Row w.heap.size w D m 1 (uw e.drop)) (d8:Row w.heap.size w A2 n 2 (dw e.add))
  (hN:N<=400000000) (j8:N<=c0) (hc:c0<=maxLen) (hr:Row w.heap.size w A N 1 (bts b)):
  Calls prog 194 #[.slice A N c0,e.val D m d A2 n c] w fun x w'=>∃A' K c',x=.returned (.tuple #[.slice A' K c',.int .i64 0])/\
   w'.ownsRow w.heap.size 5 1 (.slice A' K c') K (bts (b++e.rec_))/\K<=c'/\c'<=maxLen/\Below w.heap.size w w':=by
 have g5:=d7.ilen;have g6:=d8.flen;obtain⟨j',k0,k1,k2,k3,k4,k5,k6,f9,b3⟩:=ij3 O;have e5:=Ed.bq1 e O;have Q:=fun W (h:Below w.heap.size w W)=>xx4 e D m d A2 n c W o_ o_ ((d7.below h).up h.size) ((d8.below h).up h.size);rw[O]at Q;have e6:e.rec_=Fr.put 6 e.bytes:=rfl;have a5:e.bytes=Pn.list (e.drop.map Int.toNat)++Pn.put e.add.length++e.add.flatMap put2++[e.log.toNat,e.floor,e.cert,e.at_,e.lease].flatMap Pn.put:=by
  simp[Ed.bytes];rfl
 rw[e6];generalize e.bytes=EB at *;obtain⟨ds,fs,G,F,C,AA,L⟩:=e;simp only at g5 g6 j' k0 k1 k2 k3 k4 k5 k6 f9 b3 a5 d7 d8;unfold Ed.val at Q ⊢;simp only at Q ⊢;obtain⟨g,rfl⟩:∃g:Nat,G=(g:Int):=⟨G.toNat,o_⟩;rw[Int.toNat_natCast,g6]at a5;have HM:=H_ Q;have g7:=H_ a5;have k7:=H_ e5;have H9:=H_ f9;have k8:=H_ b3;clear Q a5 e5 f9 b3 e6 O;have k9:IntKind.u64.wrap (n:Int)=(n:Int):=by rw[IntKind.wrap_u64];omega
 have k':IntKind.u64.wrap (g:Int)=(g:Int):=by rw[IntKind.wrap_u64];omega
 obtain⟨j0,l1,l2,l3,l4⟩:=info_parts (show (prog.info? 27).map (fun i=>(i.zero,i.size,i.bytes))=some (some (.int .u64 0),1,8) by kernel_rfl);go_enter func194,ntmps194;have f':=b_ w (.cells #[.slice D m d,.slice A2 n c,.int .i64 (g:Int),.int .u64 (F:Int),.int .u64 (C:Int),.int .u64 (AA:Int),.int .u64 (L:Int)] 131);have g8:=BoxO.new w #[.slice D m d,.slice A2 n c,.int .i64 (g:Int),.int .u64 (F:Int),.int .u64 (C:Int),.int .u64 (AA:Int),.int .u64 (L:Int)] 131;go_wp2_with fail;refine(HM.out _ f').mono ?_;rintro x w1 ⟨rfl,d9⟩;have g0:=g8.below d9;have d':=az f' d9;have e7:w.heap.size+1<=w1.heap.size:=by have:=d9.size;simp at this;omega
 clear f' d9 g8 HM;have p0:=g0.c0;go_wp2_with fail
 go_loopw [6,20] (fun s x wr=>∃(k:Nat) (A':Option Addr) (cc:Nat),k<=m/\s=.slice A' k cc/\x=.int .i64 (k:Int)/\wr.ownsRow (w.heap.size+1) 27 1 (.slice A' k cc) k (u64v ((ds.take k).map Int.toNat))/\
  BoxO wr 131 w.heap.size [.slice D m d,.slice A2 n c,.int .i64 (g:Int),.int .u64 (F:Int),.int .u64 (C:Int),.int .u64 (AA:Int),.int .u64 (L:Int)]/\Below w.heap.size w wr/\w.heap.size+1<=wr.heap.size) (fun _ x _=>m - (intOf x).toNat)
 case atStart=>exact⟨0,none,0,w_ _,rfl,rfl,E_ _ _ _ _,g0,d',e7⟩
 case round=>
  obtain⟨k,A',cc,hk,rfl,rfl,H,hx,a1,l5⟩:=hrel;clear g0 d' e7 p0
  by_cases l6:k < m
  ·obtain⟨da,hl,rfl,o7,o8⟩:=(d7.below a1).int_ l6
   have g9:=H9.out ds[k] (u_ hl);have U:ds.take (k+1)=ds.take k++[ds[k]]:=(aS_ hl).symm;generalize ds[k]=x at *;obtain⟨q,rfl⟩:∃q:Nat,x=(q:Int):=⟨x.toNat,o_⟩;have HT:=H_ U;clear U hl;have o9:IntKind.u64.wrap (q:Int)=(q:Int):=by rw[IntKind.wrap_u64];omega
   have hrow:=Row.new (n:=1) (size:=1) wr #[.int .u64 (q:Int)] 27 rfl;go_wp2_with (at_builtin;refine iy ?_);refine bz (iq rfl (.tmp 24) (.tmp 27) _ rfl (w.heap.size+1) 27 j0 _ 1 8 underlying293 l1 l2 l3 l4 rfl o_ (wr.alloc (.cells #[.int .u64 (q:Int)] 27)) b0_ (by simp;omega) (.slice A' k cc) k (u64v ((ds.take k).map Int.toNat)) rfl (H.alloc _) (wr.heap.size+1) _ 1 1 [.int .u64 (q:Int)] rfl hrow (by simp[Value.oneCell']) (k+1) _ rfl rfl (by unfold maxLen;omega) o_ ?_);intro A3 c3 w3 I E l7 a2 a9;have b5:BoxO w3 _ _ _:=(E.block _ o_).trans (hx.alloc _);have a6:=(a1.alloc a1.size (.cells #[.int .u64 (q:Int)] 27)).trans (E.mono o_);have b6:w.heap.size+1<=w3.heap.size:=by have:=E.size;simp at this;omega
   clear H hx a1 E l7 hrow;go_wp2_with fail;go_roundw
   case rel=>
    refine⟨k+1,A3,c3,o_,rfl,by go_num,?_,b5,a6,b6⟩;rw[HT.out];simpa [u64v] using I
   case measure=>simp[intOf];omega
  ·obtain rfl:m=k:=o_
   have b7:(ds.take m).map Int.toNat=ds.map Int.toNat:=by rw[g_ o_]
   rw[b7]at H;obtain⟨ns,Z⟩:=n_ (ds.map Int.toNat);rw[<-Z]at H;have e9:ns.length=m:=by rw[Z,F_,g5]
   have b8:∀x∈ns,x < 18446744073709551616:=by
    intro x hx;rw[Z]at hx;obtain⟨y,hy,rfl⟩:=W_.1 hx;have:=H9.out y hy;omega
   have a':=g7.out;rw[<-Z]at a';have e':=H_ a';have hrow:=(Row.own H).drew;have h0:=hj4 ns;have b9:=(Pn.jq n).2;have HR:=H_ hrow;have HN:=H_ b8;have h6:=hx.lt;have h7:=hx.c1;have h8:∀w2,Below wr.heap.size wr.drew w2->w2.cell? ⟨w.heap.size,1,none⟩=some (.slice A2 n c):=fun w2 h=>(h.cell (p:=⟨w.heap.size,1,none⟩) h6).trans h7;have h9:=H_ h8;have h':=H_ h0;have g1:=H_ b9;have e1:=H_ e9;clear b7 Z b8 a' g7 hrow h0 b9 e9 h8 H;go_upto_region 9 with (fail)
   go_cut [9] (fun s wx=>∃A3 M3 c3,s=.slice A3 M3 c3/\wx.ownsRow w.heap.size 5 1 (.slice A3 M3 c3) M3 (bts (Pn.list ns++Pn.put n))/\M3<=500/\M3<=c3/\c3<=maxLen/\Below wr.heap.size wr wx)
   case first=>
    go_region_with (first
     |(go_at_call 248;refine(cq5 none 0 0 [] A' m cc ns _ o_ o_ Row.nil_ HR.out HN.out).mono ?_;rintro e w2 ⟨A3,M3,c3,rfl,I,l8,a2,E⟩;have q1:=h9.out w2 E)
     |(go_at_call 198;refine(put_any _ _ _ ([] ++Pn.list ns) n o_ _ (by have h1:=I.1;rw[rq,C_]at h1;have:=h'.out;have:=e1.out;omega) (Row.own I)).mono ?_;rintro e w3 ⟨A4,c4,rfl,i0,l9,l',m0⟩))
    all_goals
     go_wp2_with fail
     go_meet
     refine⟨_,_,_,rfl,own_base i0 (j_ a1.size E.size:w.heap.size<=w2.heap.size),?_,l9,l',((Below.refl wr.heap.size wr).drew.trans E).trans (m0.mono E.size)⟩;have h1:=i0.1;have h2:=h'.out;have h3:=g1.out;have h4:=e1.out;rw[rq,C_,d_]at h1;omega
   case rest=>
    obtain⟨A3,M3,c3,rfl,I,l8,a2,a9,E⟩:=hcut;have b5:=hx.below E;have a6:=az a1 E;have b6:w.heap.size+1<=wc.heap.size:=by have:=E.size;omega
    clear hx a1 E h9 HR h7 l5 HN;have p1:=b5.c1;go_wp2_with fail
    go_loopw [9,40] (fun s x wr=>∃(k:Nat) (A':Option Addr) (M cc:Nat),k<=n/\s=.slice A' M cc/\x=.int .i64 (k:Int)/\wr.ownsRow w.heap.size 5 1 (.slice A' M cc) M (bts (Pn.list ns++Pn.put n++(fs.take k).flatMap put2))/\M<=500+20 *k/\M<=cc/\cc<=maxLen/\
     BoxO wr 131 w.heap.size [.slice D m d,.slice A2 n c,.int .i64 (g:Int),.int .u64 (F:Int),.int .u64 (C:Int),.int .u64 (AA:Int),.int .u64 (L:Int)]/\Below w.heap.size w wr) (fun _ x _=>n - (intOf x).toNat)
    case atStart=>exact⟨0,A3,M3,c3,w_ _,rfl,rfl,by simpa using I,o_,a2,a9,b5,a6⟩
    case round=>
     obtain⟨k,A5,M5,c5,hk,rfl,rfl,b',m2,m3,m4,a0,J⟩:=hrel;clear I b5 a6 b6 p1
     by_cases a7:k < n
     ·obtain⟨fa,hl,rfl,p8,f0,f1⟩:=(d8.below J).file a7
      have g9:=k8.out fs[k] (u_ hl);have U:fs.take (k+1)=fs.take k++[fs[k]]:=(aS_ hl).symm;generalize fs[k]=x at *;obtain⟨x0,x1⟩:=x;simp only at g9 f0 f1;obtain⟨lv,rfl⟩:∃q:Nat,x0=(q:Int):=⟨x0.toNat,o_⟩;obtain⟨nm,rfl⟩:∃q:Nat,x1=(q:Int):=⟨x1.toNat,o_⟩;have HT:=H_ U;have p9:IntKind.u64.wrap (lv:Int)=(lv:Int):=by rw[IntKind.wrap_u64];omega
      have n':IntKind.u64.wrap (nm:Int)=(nm:Int):=by rw[IntKind.wrap_u64];omega
      have e2:=BoxO.new wr #[.int .i64 (lv:Int),.int .i64 (nm:Int)] 89;have i1:Row _ _ A5 M5 1 _:=((Row.own b').alloc l_ (.cells #[.int .i64 (lv:Int),.int .i64 (nm:Int)] 89)).drew;have i2:=b_ wr (.cells #[.int .i64 (lv:Int),.int .i64 (nm:Int)] 89);clear U hl b';go_wp2_with fail;change Code.wp _ _ _ _ (wr.alloc (.cells #[.int .i64 (lv:Int),.int .i64 (nm:Int)] 89));have i3:=a0.alloc (.cells #[.int .i64 (lv:Int),.int .i64 (nm:Int)] 89);have c9:=az J i2;generalize wr.alloc (.cells #[.int .i64 (lv:Int),.int .i64 (nm:Int)] 89)=V at *;have d0:=e2.lt;have v0:=e2.c0;have v1:=e2.c1;have hd:∀w2,Below V.heap.size V.drew w2->w2.cell? ⟨wr.heap.size,0,none⟩=some (.int .i64 (lv:Int))/\w2.cell? ⟨wr.heap.size,1,none⟩=some (.int .i64 (nm:Int)):=fun w2 h=>⟨(h.cell (p:=⟨wr.heap.size,0,none⟩) d0).trans v0,(h.cell (p:=⟨wr.heap.size,1,none⟩) d0).trans v1⟩;have HD:=H_ hd;have i4:=H_ (i1.up (B':=V.drew.heap.size) (Nat.le_of_lt d0));have i5:=(Pn.jq lv).2;have i6:=(Pn.jq nm).2;have i7:=H_ i5;have m6:=H_ i6;clear hd i1 i2 a0 J i5 i6 f0 f1
      go_region_with (first
       |(go_at_call 198;(with_reducible refine(put_any A5 M5 c5 (Pn.list ns++Pn.put n++(fs.take k).flatMap put2) lv o_ _ o_ i4.out).mono ?_);rintro e w2 ⟨A6,c6,rfl,b0,q2,q3,d1⟩;obtain⟨q0,q1⟩:=HD.out w2 d1)
       |(go_at_call 198;(with_reducible refine(put_any A6 _ c6 (Pn.list ns++Pn.put n++(fs.take k).flatMap put2++Pn.put lv) nm o_ _ (by have:=i7.out;omega) (Row.own b0)).mono ?_);rintro e w3 ⟨A7,c7,rfl,i8,m7,m8,i9⟩))
      all_goals
       have g2:=((Below.refl V.heap.size V).drew.trans d1).trans (i9.mono d1.size);have m9:=i3.below g2;have i':=az c9 g2;have m':=own_base (base':=w.heap.size) i8 (j_ c9.size d1.size);clear d1 i9 g2 i3 c9 b0 i8 e2 i4 HD v0 v1;go_wp2_with fail;go_roundw
       case rel=>
        refine⟨k+1,A7,_,c7,o_,rfl,by go_num,?_,by have h1:=i7.out;have h2:=m6.out;omega,m7,m8,m9,i'⟩;rw[HT.out];simpa [put2,K_] using m'
       case measure=>simp[intOf];omega
     ·obtain rfl:n=k:=o_
      have j1:fs.take n=fs:=g_ o_;rw[j1]at b';have p2:=a0.c2;have p3:=a0.c3;have p4:=a0.c4;have p5:=a0.c5;have p6:=a0.c6;have q':M5<=1300:=o_
      clear j1 a0 a7 m2;go_wp2_with fail;have e3:=J.alloc J.size (.cells #[.int .u64 (g:Int),.int .u64 (F:Int),.int .u64 (C:Int),.int .u64 (AA:Int),.int .u64 (L:Int)] 27);have hrow:=uv2 wr 27 #[.int .u64 (g:Int),.int .u64 (F:Int),.int .u64 (C:Int),.int .u64 (AA:Int),.int .u64 (L:Int)] [g,F,C,AA,L] 5 rfl rfl;have b0:=b'.alloc (.cells #[.int .u64 (g:Int),.int .u64 (F:Int),.int .u64 (C:Int),.int .u64 (AA:Int),.int .u64 (L:Int)] 27);clear p2 p3 p4 p5 p6 b' J;change Code.wp _ _ _ _ (wr.alloc (.cells #[.int .u64 (g:Int),.int .u64 (F:Int),.int .u64 (C:Int),.int .u64 (AA:Int),.int .u64 (L:Int)] 27));generalize wr.alloc (.cells #[.int .u64 (g:Int),.int .u64 (F:Int),.int .u64 (C:Int),.int .u64 (AA:Int),.int .u64 (L:Int)] 27)=V at *;generalize wr.heap.size=hp at *;have b7:∀n∈[g,F,C,AA,L],n < 18446744073709551616:=by
       intro n hn;simp at hn;omega
      have a':=e'.out;have j2:[g,F,C,AA,L].length=5:=rfl;have HN:=H_ b7;have e1:=H_ j2;generalize f6:[g,F,C,AA,L]=vs at *;have f7:=H_ a';have HD:=H_ f6;clear b7 a' e' j2 f6 k' k9;obtain⟨LL,g4⟩:=n_ (Pn.list ns++Pn.put n++fs.flatMap put2);rw[<-g4]at b0;have d2:=f7.out;rw[<-g4]at d2;have j3:=H_ d2;clear g4 d2 f7
      go_loopw [9,67] (fun s x j4=>∃(k:Nat) (A':Option Addr) (M c':Nat),k<=5/\s=.slice A' M c'/\x=.int .i64 (k:Int)/\M<=1300+10 *k/\j4.ownsRow w.heap.size 5 1 (.slice A' M c') M (bts (LL++(vs.take k).flatMap Pn.put))/\M<=c'/\c'<=maxLen/\Below V.heap.size V j4) (fun _ x _=>5 - (intOf x).toNat)
      case atStart=>exact⟨0,A5,M5,c5,o_,rfl,rfl,o_,by simpa using b0,m3,m4,Below.refl _ _⟩
      case round=>
       obtain⟨k,A',M,c',hk,rfl,rfl,hM,H,n0,n1,d3⟩:=hrel
       by_cases a7:k < 5
       ·obtain⟨aa,hl,he,r3,hc⟩:=(hrow.below d3).un a7
        injection he with he;subst he;have n3:=HN.out vs[k] (u_ hl);have U:vs.take (k+1)=vs.take k++[vs[k]]:=(aS_ hl).symm;generalize vs[k]=x at *;have HT:=H_ U;clear U;rw[ay5]at hc;go_wp2_with fail;refine(put_any A' M c' _ x n3 wr o_ (Row.own H)).mono ?_;rintro e w2 ⟨A3,c3,rfl,I,a2,a9,E⟩;have b9:=(Pn.jq x).2;have d4:=own_base I (j_ e3.size d3.size);have g1:=H_ b9;clear b9 I;go_wp2_with fail;go_roundw
        case rel=>
         refine⟨k+1,A3,M+(Pn.put x).length,c3,o_,rfl,by go_num,by have h:=g1.out;omega,?_,a2,a9,az d3 E⟩;rw[HT.out];simpa [K_] using d4
        case measure=>simp[intOf];omega
       ·obtain rfl:k=5:=o_
        have f8:LL++(vs.take 5).flatMap Pn.put=EB:=by
         rw[g_ (by have:=e1.out;omega)];exact j3.out.symm
        rw[f8]at H;have e4:=e3.trans (d3.mono e3.size);have r4:=k7.out;clear f8 hrow b0 d3 e3;have hq:=Row.own H;clear H;go_wp2_with fail;refine(lk1 A N c0 b 6 A' M c' _ wr o_ j8 hc ((hr.below e4).up e4.size) (by decide) (by decide) o_ n0 n1 hq).mono ?_;rintro e w2 ⟨A3,K,c3,rfl,I,a2,a9,E⟩;have d4:=own_base I e4.size;have d':=az e4 E;clear I E;go_wp2;exact bodyPost_ret (v:=.tuple #[.slice A3 K c3,.int .i64 0]) (by simp[results,go_sem]) rfl ⟨A3,K,c3,rfl,d4,a2,a9,d'⟩
end Go.Proofs.YtkdbagdiplpcfaaGreatDoor
