/- Some of the texts. No conditions. -/
import Derived.Test.YtfbkjjdfboagfaaGreatDoorBunAC
import Derived.Test.YtfbkjjdfboagfaaGreatDoorBunAE
import Derived.Test.YtfbkjjdfboagfaaGreatDoorBunAD

set_option linter.unusedSimpArgs false
set_option linter.unusedVariables false
set_option maxRecDepth 100000
set_option maxHeartbeats 16000000
namespace Go.Proofs.YtfbkjjdfboagfaaGreatDoor
open Go.Proofs.Tryz Go Go.RowKit Go.Lib Go.Shelf
structure ix1 (B:Nat) (w:World) (A:Option Addr) (n c:Nat) (fs:List (Int×Int)):Prop where
 row:Row w w A n 2 (bz fs)
 nc:n<=c
 cm:c<=maxLen
 low:∀a,A=some a->B<=a.block
def vj3 (w:World) (o:Option Vw) (x:Ending) (w':World):Prop:=
 Below w w w'/\match o with
 |none=>x=.returned (.tuple #[Vw.none_.val none 0 0,.bool false])
 |some u=>∃A N c,x=.returned (.tuple #[u.val A N c,.bool true])/\ix1 w w' A N c u.files
def drop1 (n:Int) (fs:List (Int×Int)):Option (List (Int×Int)):=if fs.any (fun f=>f.2==n) then some (fs.eraseP fun f=>f.2==n) else none
theorem sx1:∀(a b:List Int) (fs:List (Int×Int)),dropAll (a++b) fs=(dropAll a fs).bind (dropAll b)
 |[],b,fs=>rfl
 |n::r,b,fs=>by
  simp only[U_,dropAll];split
  ·exact sx1 r b _
  ·rfl
theorem jj3 {ds:List Int} {k:Nat} (h:k < ds.length) (fs:List (Int×Int)):dropAll (ds.take (k+1)) fs=(dropAll (ds.take k) fs).bind (drop1 ds[k]):=by
 rw[v_ h,sx1]
 congr 1
theorem bk3 {ds:List Int} {k:Nat} {fs:List (Int×Int)} (h:dropAll (ds.take k) fs=none):dropAll ds fs=none:=by
 rw[<-ag_ k ds,sx1,h];rfl
theorem ax5 {P:Int×Int->Bool} {fs:List (Int×Int)} {i:Nat} (hi:i < fs.length) (h:fs.findIdx P=i):fs.eraseP P=fs.eraseIdx i:=by
 rw[List.eraseP_eq_eraseIdx];have:fs.findIdx? P=some i:=by
  rw[List.findIdx?_eq_some_iff_findIdx_eq];exact⟨hi,h⟩
 rw[this]
theorem nz5 {v:Vw} {e:Ed} (h:dropAll e.drop v.files=none):v.app e=none:=by unfold Vw.app;rw[h]
def Vw.mix (v:Vw) (e:Ed) (fs:List (Int×Int)):Vw:=⟨if e.log=0 then v.log else e.log,fs++e.add,orElse e.floor v.floor,orElse e.cert v.cert,orElse e.at_ v.at_,orElse e.lease v.lease⟩
theorem nj5 {v:Vw} {e:Ed} {fs:List (Int×Int)} (h:dropAll e.drop v.files=some fs):v.app e=if (v.mix e fs).ok=true then some (v.mix e fs) else none:=by unfold Vw.app;rw[h];rfl
theorem fz2 {base B:Nat} {w:World} {A:Option Addr} {n c:Nat} {fs:List (Int×Int)} (h:w.ownsRow base 173 2 (.slice A n c) n (bz fs)) (H:B<=base):ix1 B w A n c fs:=by
 obtain⟨_,_,o,z,C,E⟩:=ay h;injection o with h1 h2 h3;subst h1 h3;exact⟨Row.own h,z,C,fun a I=>g_ H (E a I).1⟩
theorem ix1.below {B n c:Nat} {w w':World} {A:Option Addr} {fs:List (Int×Int)} (h:ix1 B w A n c fs) (o:Below w w w'):ix1 B w' A n c fs:=⟨(h.row.below o).up o.size,h.nc,h.cm,h.low⟩
theorem ix1.chg {B n c:Nat} {w w':World} {A:Option Addr} {fs:List (Int×Int)} {G:List Nat} (h:ix1 B w A n c fs) (k:Chg G w w') (o:∀a,A=some a->a.block∉G):ix1 B w' A n c fs:=⟨(k.row h.row l_ o).up k.size,h.nc,h.cm,h.low⟩
theorem gw5 (A:Option Addr) (n c:Nat) (w:World) (o:n<=c) (_hc:c<=maxLen):Calls prog 209 #[.slice A n c] w fun e w'=>e=.returned (.slice A n n)/\w=w':=by
 go_enter func209,ntmps209;go_wp2;go_ret;exact⟨rfl,rfl⟩
theorem ev3 (v:Vw) (A0:Option Addr) (n0 c0:Nat) (e:Ed) (D:Option Addr) (m d:Nat) (A2:Option Addr) (O c2:Nat) (w:World) (x8:n0<=100000) (hm:m<=100000) (x9:O<=100000)
  (j3:Row w w A0 n0 2 (bz v.files)) (j4:Row w w D m 1 (pz e.drop)) (j5:Row w w A2 O 2 (bz e.add)):
  Calls prog 153 #[v.val A0 n0 c0,e.val D m d A2 O c2] w (vj3 w (v.app e)):=by
 obtain⟨i0,m2,m3,m4,m5⟩:=info_parts kq1;have i4:=fun h=>nz5 (v:=v) (e:=e) h;have i5:=fun fs h=>nj5 (v:=v) (e:=e) (fs:=fs) h;generalize s2:v.app e=AP at *;have e5:=H_ i4;have a2:=H_ i5;clear i4 i5 s2;have m6:=fun(k:Nat) (h:k < e.drop.length)=>jj3 h v.files;have m7:=fun(k:Nat) h=>bk3 (ds:=e.drop) (k:=k) (fs:=v.files) h;have s3:=j4.ilen;have s4:=j3.flen;have s5:=j5.flen;have j6:=H_ m6;have j7:=H_ m7;clear m6 m7;unfold Vw.mix at a2;unfold Vw.val Ed.val;obtain⟨g,d7,f,c,a,l⟩:=v;obtain⟨ds,ad,G,F,C,AA,L⟩:=e;simp only at j3 j4 j5 e5 a2 s3 s4 s5 j6 j7 ⊢;go_enter func153,ntmps153;go_wp2_with (at_builtin;refine iq ?_);have j8:Below w w ((((w.alloc (.cells #[g,.slice A0 n0 c0,[f],[c],[a],[l]] 106)).alloc (.cells #[.slice D m d,.slice A2 O c2,G,[F],[C],[AA],[L]] 135)).alloc (.cells #[.int .i64 0,.slice none 0 0,.int .u64 0,.int .u64 0,.int .u64 0,.int .u64 0] 106)).alloc (.cells #[g,.slice A0 n0 c0,[f],[c],[a],[l]] 106)):=(((b_ _ _).alloc s_ _).alloc (by simp;omega) _).alloc (by simp;omega) _;have Q:=(((BoxO.new (w.alloc (.cells #[g,.slice A0 n0 c0,[f],[c],[a],[l]] 106)) #[.slice D m d,.slice A2 O c2,G,[F],[C],[AA],[L]] 135).alloc (.cells #[.int .i64 0,.slice none 0 0,.int .u64 0,.int .u64 0,.int .u64 0,.int .u64 0] 106)).alloc (.cells #[g,.slice A0 n0 c0,[f],[c],[a],[l]] 106));have hR:=((BoxO.new ((w.alloc (.cells #[g,.slice A0 n0 c0,[f],[c],[a],[l]] 106)).alloc (.cells #[.slice D m d,.slice A2 O c2,G,[F],[C],[AA],[L]] 135)) #[.int .i64 0,.slice none 0 0,.int .u64 0,.int .u64 0,.int .u64 0,.int .u64 0] 106).alloc (.cells #[g,.slice A0 n0 c0,[f],[c],[a],[l]] 106));have hO:=BoxO.new (((w.alloc (.cells #[g,.slice A0 n0 c0,[f],[c],[a],[l]] 106)).alloc (.cells #[.slice D m d,.slice A2 O c2,G,[F],[C],[AA],[L]] 135)).alloc (.cells #[.int .i64 0,.slice none 0 0,.int .u64 0,.int .u64 0,.int .u64 0,.int .u64 0] 106)) #[g,.slice A0 n0 c0,[f],[c],[a],[l]] 106;simp only[F_]at Q hR hO;have m9:((((w.alloc (.cells #[g,.slice A0 n0 c0,[f],[c],[a],[l]] 106)).alloc (.cells #[.slice D m d,.slice A2 O c2,G,[F],[C],[AA],[L]] 135)).alloc (.cells #[.int .i64 0,.slice none 0 0,.int .u64 0,.int .u64 0,.int .u64 0,.int .u64 0] 106)).alloc (.cells #[g,.slice A0 n0 c0,[f],[c],[a],[l]] 106)).heap.size=(w:Nat)+1+1+1+1:=by simp
 refine gz (yx rfl _ (.tmp 14) _ rfl ((w:Nat)+1+1+1+1) 173 i0 _ 2 16 underlying104 m2 m3 m4 m5 rfl o_ ((((w.alloc (.cells #[g,.slice A0 n0 c0,[f],[c],[a],[l]] 106)).alloc (.cells #[.slice D m d,.slice A2 O c2,G,[F],[C],[AA],[L]] 135)).alloc (.cells #[.int .i64 0,.slice none 0 0,.int .u64 0,.int .u64 0,.int .u64 0,.int .u64 0] 106)).alloc (.cells #[g,.slice A0 n0 c0,[f],[c],[a],[l]] 106)) b0_ (by rw[m9];exact B_ _) rfl (w:Nat) A0 n0 c0 (bz d7) rfl (j3.below j8) (fw1 _) (by unfold maxLen;omega) o_ ?_);intro A1 k1 w1 j9 e7 s6 y6 y7;have i7:Below w w w1:=j8.trans (e7.mono o_);have j':BoxO w1 _ _ _:=(e7.block ((w:Nat)+1) o_).trans Q;have n3:BoxO w1 _ _ _:=(e7.block ((w:Nat)+1+1) o_).trans hR;have e9:BoxO w1 _ _ _:=(e7.block ((w:Nat)+1+1+1) o_).trans hO;clear j8 Q hR hO m9 e7 s6;have q0:=e9.c1;have z0:=e9.free 1;have p0:=j'.c0;have v5:=e9.lt;have k0:=e9.store 1 (.slice A1 n0 k1);have E:=tq w1 ⟨(w:Nat)+1+1+1,1,none⟩ (.slice A1 n0 k1);have n5:=j'.chg E s_;have U:=n3.chg E s_;have i8:=i7.setCell (p:=⟨(w:Nat)+1+1+1,1,none⟩) (by simp;omega) (.slice A1 n0 k1);have n6:=jv j9 E (fun g hg h=>by
  have:=(j9.lt g hg).1;simp at h;omega)
 simp only[Q_,T_]at k0;clear e9 j' n3 i7 j9 E;go_wp2_with fail;clear q0 z0 p0;generalize w1.setCell ⟨(w:Nat)+1+1+1,1,none⟩ (.slice A1 n0 k1)=W at *
 go_loopw [20] (fun i wr=>∃(k N cp:Nat) (A':Option Addr) (fs:List (Int×Int)),k<=m/\i=.int .i64 k/\Hid (dropAll (ds.take k) d7=some fs)/\N<=n0/\BoxO wr 106 ((w:Nat)+1+1+1) [g,.slice A' N cp,[f],[c],[a],[l]]/\wr.ownsRow ((w:Nat)+1+1+1+1) 173 2 (.slice A' N cp) N (bz fs)/\BoxO wr 135 ((w:Nat)+1) [.slice D m d,.slice A2 O c2,G,[F],[C],[AA],[L]]/\BoxO wr 106 ((w:Nat)+1+1) [.int .i64 0,.slice none 0 0,.int .u64 0,.int .u64 0,.int .u64 0,.int .u64 0]/\Below w w wr) (fun i _=>m - (intOf i).toNat)
 case atStart=>exact⟨0,n0,k1,A1,d7,A_ _,rfl,H_ rfl,B_ _,k0,n6,n5,U,i8⟩
 case round=>
  obtain⟨k,N,cp,A',fs,hk,rfl,g8,hN,hO,ho,Q,hR,e'⟩:=hrel;clear k0 n5 U i8 n6;obtain⟨_,_,s8,s9,s',t0⟩:=ay ho;injection s8 with n7 n8 n9;subst n7 n9;clear n8;have q1:=hO.c1;have z1:=hO.free 1;have v6:=hO.lt
  by_cases n':k < m
  ·obtain⟨da,hl,rfl,y',z6⟩:=(j4.below e').int_ n'
   have k3:=j6.out k hl;rw[g8.out]at k3;have o6:=j7.out (k+1);generalize ds[k]=x at *;have k4:Hid (dropAll (ds.take (k+1)) d7=drop1 x fs):=H_ k3;have o7:=H_ o6;clear k3 o6 g8 hl;have z7:=(Row.own ho).flen;have o8:=(Row.own ho).alloc l_ (.cells #[.int .i64 x] 3);have o9:(wr.alloc (.cells #[.int .i64 x] 3)).cell? (wr:Nat)=some (.int .i64 x):=(BoxO.new wr #[.int .i64 x] 3).cell 0;have o':=b_ wr (.cells #[.int .i64 x] 3);have d8:=xq3 207 (fun _ _=>rfl) ⟨wr,0,none⟩ (fun f=>f.2==x) A' N cp fs (wr.alloc (.cells #[.int .i64 x] 3)) o_ (o8.up s_) (fun f w2 J=>yw5 f ⟨wr,0,none⟩ x w2 ((J.cell (p:=⟨wr,0,none⟩) s_).trans o9));have k6:=hO.alloc (.cells #[.int .i64 x] 3);have k7:=Q.alloc (.cells #[.int .i64 x] 3);have h7:=hR.alloc (.cells #[.int .i64 x] 3);have k8:=ho.alloc (.cells #[.int .i64 x] 3);have d5:=az e' o';clear o8 o9 o' hO Q hR ho e'
   cases a6:fs.any (fun f=>f.2==x) with
   |false=>
    rw[av1 a6]at d8;have p8:AP=none:=e5.out (o7.out (by rw[k4.out,drop1,a6];rfl));have t1:=H_ p8;clear p8 a6;go_wp2_with fail;refine d8.mono ?_;rintro e w2 ⟨rfl,J⟩;have a0:=h7.below J;have t2:=az d5 J;have r0:=a0.c0;have r1:=a0.c1;have r2:=a0.c2;have r3:=a0.c3;have r4:=a0.c4;have r5:=a0.c5;have y0:=a0.free 0;have y1:=a0.free 1;have y2:=a0.free 2;have y3:=a0.free 3;have y4:=a0.free 4;have y5:=a0.free 5;clear d8 J k6 k7 h7 k8 d5 q1 z1 a0;go_wp2_with fail;refine bodyPost_ret (v:=.tuple #[.agg #[.int .i64 0,.slice none 0 0,.int .u64 0,.int .u64 0,.int .u64 0,.int .u64 0],.bool false]) (by simp[results,go_sem, *]) rfl ?_;unfold vj3;rw[t1.out];exact⟨(((((t2.setCell (by simp;omega) _).setCell (by simp;omega) _).setCell (by simp;omega) _).setCell (by simp;omega) _).setCell (by simp;omega) _).setCell (by simp;omega) _,rfl⟩
   |true=>
    obtain⟨i,p9,t3,t4,p'⟩:=uq3 a6;rw[p9]at d8;have t5:i < N:=o_
    have q2:=ax5 t3 p';have q3:dropAll (ds.take (k+1)) d7=some (fs.eraseIdx i):=by rw[k4.out,drop1,a6,if_pos rfl,q2]
    have t6:=H_ q3;clear p9 t4 p' q2 q3 a6 k4 o7;go_wp2_with fail;refine d8.mono ?_;rintro e w2 ⟨rfl,J⟩;have b8:=k6.below J;have f0:=k7.below J;have f1:=h7.below J;have d9:=own_below k8 J;have a7:=az d5 J;clear d8 J k6 k7 h7 k8 d5 q1 z1
    rcases d9.2 with ⟨H,h0⟩|⟨gg,cap,cur,H,A7,q4,_⟩
    ·omega
    injection H with t7 t8 t9;subst t7 t9;clear t8;have v8:gg < (w2:Nat):=(E_.1 q4).1;have q1:=b8.c1;have i9:=kx5 ((w:Nat)+1+1+1+1) gg N cp i fs w2 d9 t5;clear q4 d9;go_wp2_with fail;refine i9.mono ?_;rintro e w3 ⟨rfl,k9,f2⟩;have h8:=b8.chg f2 (by simp;omega);have q5:=f0.chg f2 (by simp;omega);have q6:=f1.chg f2 (by simp;omega);have j0:=a7.trans (f2.below a7.size (by intro q hq;simp at hq;omega));clear i9 b8 f0 f1 a7 f2 q1;have q1:=h8.c1;have z1:=h8.free 1;have E:=tq w3 ⟨(w:Nat)+1+1+1,1,none⟩ (.slice (some gg) (N - 1) cp);have a5:=h8.store 1 (.slice (some gg) (N - 1) cp);simp only[Q_,T_]at a5;have d1:=q5.chg E s_;have d':=q6.chg E s_;have t':=jv k9 E (fun q hq h=>by
     have:=(k9.lt q hq).1;simp at h;omega)
    have a8:=j0.setCell (p:=⟨(w:Nat)+1+1+1,1,none⟩) (by simp;omega) (.slice (some gg) (N - 1) cp);clear h8 q5 q6 k9 j0 E;go_wp2_with fail;go_roundw
    case rel=>exact⟨k+1,N - 1,cp,some ⟨gg,0,none⟩,fs.eraseIdx i,o_,by go_num,t6,o_,a5,t',d1,d',a8⟩
    case measure=>simp[intOf];omega
  ·obtain rfl:m=k:=o_
   have f3:dropAll ds d7=some fs:=by have h:=g8.out;rwa [i_ o_]at h
   have a9:=a2.out fs f3;have q7:=H_ a9;clear f3 a9 g8 e5 a2 j6 j7;have p1:=Q.c1;go_wp2_with (at_builtin;refine iq ?_);refine gz (iy rfl (.tmp 40) (.tmp 42) _ rfl ((w:Nat)+1+1+1+1) 173 i0 _ 2 16 underlying104 m2 m3 m4 m5 rfl o_ wr b0_ o_ _ N (bz fs) rfl ho w A2 O c2 (bz ad) rfl (j5.below e') (fw1 _) (N+O) (bz (fs++ad)) rfl (yx1 _ _).symm (by unfold maxLen;omega) o_ ?_);intro A3 c3 w3 d9 b' u1 u2 u3;have a7:=e'.trans (b'.mono o_);have f0:BoxO w3 _ _ _:=(b'.block _ o_).trans Q;have f1:BoxO w3 _ _ _:=(b'.block _ o_).trans hR;have b8:BoxO w3 _ _ _:=(b'.block _ o_).trans hO;have k':=fz2 d9 l_;clear ho Q hR hO b' u1 q1 z1 p1 d9;go_wp2_with fail;refine(gw5 A3 (N+O) c3 w3 u2 u3).mono ?_;rintro e w4 ⟨rfl,rfl⟩;have q1:=b8.c1;have z1:=b8.free 1;have E:=tq w3 ⟨(w:Nat)+1+1+1,1,none⟩ (.slice A3 (N+O) (N+O));have a5:=b8.store 1 (.slice A3 (N+O) (N+O));simp only[Q_,T_]at a5;have d1:=f0.chg E s_;have d':=f1.chg E s_;have f4:=k'.chg E (fun q hq h=>by
    have:=k'.low q hq;simp at h;omega)
   have a8:=a7.setCell (p:=⟨(w:Nat)+1+1+1,1,none⟩) (by simp;omega) (.slice A3 (N+O) (N+O));clear b8 f0 f1 a7 E k';have p2:=d1.c2;obtain⟨g',q8⟩:=n_ ((if G=0 then g else G));have HG:=H_ q8;clear q8;go_upto_if 48 with (fail)
   generalize w3.setCell ⟨(w:Nat)+1+1+1,1,none⟩ (.slice A3 (N+O) (N+O))=W5 at *;clear q1 z1 s9 s' t0
   go_cut [] (fun wx=>BoxO wx 106 ((w:Nat)+1+1+1) [g',.slice A3 (N+O) (N+O),[f],[c],[a],[l]]/\BoxO wx 135 ((w:Nat)+1) [.slice D m d,.slice A2 O c2,G,[F],[C],[AA],[L]]/\BoxO wx 106 ((w:Nat)+1+1) [.int .i64 0,.slice none 0 0,.int .u64 0,.int .u64 0,.int .u64 0,.int .u64 0]/\ix1 ((w:Nat)+1+1+1+1) wx A3 (N+O) c3 (fs++ad)/\Below w w wx)
   case first=>
    by_cases hG:G=0
    ·have e0:(G !=0)=false:=by simp[hG]
     have e1:g'=g:=by rw[HG.out,if_pos hG]
     subst e1;subst hG;clear HG e0;go_wp2_with fail
     go_meet
     exact⟨a5,d1,d',f4,a8⟩
    ·have e0:(G !=0)=true:=by simpa using hG
     have e1:g'=G:=by rw[HG.out,if_neg hG]
     subst e1;have q0:=a5.c0;have z0:=a5.free 0;have E:=tq W5 ⟨(w:Nat)+1+1+1,0,none⟩ (.int .i64 g');have e4:=a5.store 0 (.int .i64 g');simp only[T_]at e4;have d2:=d1.chg E s_;have h9:=d'.chg E s_;have h':=f4.chg E (fun q hq h=>by
      have:=f4.low q hq;simp at h;omega)
     have c9:=a8.setCell (p:=⟨(w:Nat)+1+1+1,0,none⟩) (by simp;omega) (.int .i64 g');clear HG hG E a5 d1 d' f4 a8;go_wp2_with fail
     go_meet
     exact⟨e4,d2,h9,h',c9⟩
   case rest=>
    obtain⟨e4,d2,h9,h',c9⟩:=hcut;clear a5 d1 d' f4 a8 p2;have p3:=d2.c3;have p4:=d2.c4;have p5:=d2.c5;have p6:=d2.c6;have q9:=e4.lt;have hQ:=BoxO.new wc #[[F],.pointer (some ⟨(w:Nat)+1+1+1,2,none⟩),[C],.pointer (some ⟨(w:Nat)+1+1+1,3,none⟩),[AA],.pointer (some ⟨(w:Nat)+1+1+1,4,none⟩),[L],.pointer (some ⟨(w:Nat)+1+1+1,5,none⟩)] 289;have q':=e4.alloc (.cells #[[F],.pointer (some ⟨(w:Nat)+1+1+1,2,none⟩),[C],.pointer (some ⟨(w:Nat)+1+1+1,3,none⟩),[AA],.pointer (some ⟨(w:Nat)+1+1+1,4,none⟩),[L],.pointer (some ⟨(w:Nat)+1+1+1,5,none⟩)] 289);have r6:=h9.alloc (.cells #[[F],.pointer (some ⟨(w:Nat)+1+1+1,2,none⟩),[C],.pointer (some ⟨(w:Nat)+1+1+1,3,none⟩),[AA],.pointer (some ⟨(w:Nat)+1+1+1,4,none⟩),[L],.pointer (some ⟨(w:Nat)+1+1+1,5,none⟩)] 289);have l1:=h'.below (b_ wc (.cells #[[F],.pointer (some ⟨(w:Nat)+1+1+1,2,none⟩),[C],.pointer (some ⟨(w:Nat)+1+1+1,3,none⟩),[AA],.pointer (some ⟨(w:Nat)+1+1+1,4,none⟩),[L],.pointer (some ⟨(w:Nat)+1+1+1,5,none⟩)] 289));have f6:=c9.alloc c9.size (.cells #[[F],.pointer (some ⟨(w:Nat)+1+1+1,2,none⟩),[C],.pointer (some ⟨(w:Nat)+1+1+1,3,none⟩),[AA],.pointer (some ⟨(w:Nat)+1+1+1,4,none⟩),[L],.pointer (some ⟨(w:Nat)+1+1+1,5,none⟩)] 289);clear e4 h9 h' c9;go_wp2_with fail;clear p3 p4 p5 p6 d2;obtain⟨qb,l2⟩:=n_ (wc:Nat);have B0:(w:Nat)+1+1+1 < qb:=o_
    simp only[<-l2]at hQ ⊢;change Code.wp _ _ _ _ (wc.alloc (.cells #[[F],.pointer (some ⟨(w:Nat)+1+1+1,2,none⟩),[C],.pointer (some ⟨(w:Nat)+1+1+1,3,none⟩),[AA],.pointer (some ⟨(w:Nat)+1+1+1,4,none⟩),[L],.pointer (some ⟨(w:Nat)+1+1+1,5,none⟩)] 289));generalize wc.alloc (.cells #[[F],.pointer (some ⟨(w:Nat)+1+1+1,2,none⟩),[C],.pointer (some ⟨(w:Nat)+1+1+1,3,none⟩),[AA],.pointer (some ⟨(w:Nat)+1+1+1,4,none⟩),[L],.pointer (some ⟨(w:Nat)+1+1+1,5,none⟩)] 289)=V at *;have B1:=H_ l2;clear l2 q9;obtain⟨f',l3⟩:∃x,orElse F f=x:=⟨_,rfl⟩;obtain⟨c',l4⟩:∃x,orElse C c=x:=⟨_,rfl⟩;obtain⟨a',l5⟩:∃x,orElse AA a=x:=⟨_,rfl⟩;obtain⟨l',l6⟩:∃x,orElse L l=x:=⟨_,rfl⟩;have a9:=q7.out;rw[l3,l4,l5,l6,<-HG.out]at a9;have a2:=H_ a9;have HF:=H_ l3;have HC:=H_ l4;have HA:=H_ l5;have HL:=H_ l6;clear a9 q7 l3 l4 l5 l6 HG
    go_loopw [70] (fun i wr=>∃k x0 x1 x2 x3:Nat,k<=4/\i=.int .i64 k/\BoxO wr 106 ((w:Nat)+1+1+1) [g',.slice A3 (N+O) (N+O),[x0],[x1],[x2],[x3]]/\
     Hid (x0=(if 0 < k then f' else f)/\x1=(if 1 < k then c' else c)/\x2=(if 2 < k then a' else a)/\x3=(if 3 < k then l' else l))/\Chg [(w:Nat)+1+1+1] V wr) (fun i _=>4 - (intOf i).toNat)
    case atStart=>exact⟨0,f,c,a,l,o_,rfl,q',H_ ⟨rfl,rfl,rfl,rfl⟩,Chg.refl _ _⟩
    case round=>
     obtain⟨k,x0,x1,x2,x3,hk,rfl,z,hx,I⟩:=hrel;have b6:=hQ.chg I (by simp;omega);have r7:=r6.chg I s_;have n':=z.lt;have o0:=z.c0;have z0:=z.free 0;have o1:=z.c1;have z1:=z.free 1;have o2:=z.c2;have z2:=z.free 2;have o3:=z.c3;have z3:=z.free 3;have o4:=z.c4;have z4:=z.free 4;have o5:=z.c5;have z5:=z.free 5;have p0:=b6.c0;have p1:=b6.c1;have p2:=b6.c2;have p3:=b6.c3;have p4:=b6.c4;have p5:=b6.c5;have p6:=b6.c6;have p7:=b6.c7
     rcases (by omega:k=0\/k=1\/k=2\/k=3\/k=4) with rfl|rfl|rfl|rfl|rfl
     ·have he:orElse F f=f':=HF.out
      have o:x0=(if 0 < 0 then f' else f)/\x1=(if 1 < 0 then c' else c)/\x2=(if 2 < 0 then a' else a)/\x3=(if 3 < 0 then l' else l):=hx.out;have HX:=H_ o
      by_cases Q:F=0
      ·have e1:((F:Int)==0)=true:=by simp[Q]
       have e2:(!((F:Int)==0))=false:=by rw[e1];rfl
       have H:f=f':=by rw[<-he,Q];rfl
       have HV:=H_ H;clear H he Q o hx;go_wp2_with fail;go_roundw
       case rel=>
        refine⟨1,x0,x1,x2,x3,o_,rfl,z.alloc _,H_ ?_,I.alloc _⟩;have o:=HX.out;have H:=HV.out;simp at o ⊢;simp[o,H]
       case measure=>simp[intOf]
      ·have e1:((F:Int)==0)=false:=by simp;omega
       have e2:(!((F:Int)==0))=true:=by rw[e1];rfl
       have H:F=f':=by rw[<-he,rz1 Q]
       have HV:=H_ H;clear H he Q o hx;go_wp2_with fail;go_roundw
       case rel=>
        refine⟨1,F,x1,x2,x3,o_,rfl,(z.store 2 _).alloc _,H_ ?_,(I.setCell _ (.inl s_)).alloc _⟩;have o:=HX.out;have H:=HV.out;simp at o ⊢;simp[o,H]
       case measure=>simp[intOf]
     ·have he:orElse C c=c':=HC.out
      have o:x0=(if 0 < 1 then f' else f)/\x1=(if 1 < 1 then c' else c)/\x2=(if 2 < 1 then a' else a)/\x3=(if 3 < 1 then l' else l):=hx.out;have HX:=H_ o
      by_cases Q:C=0
      ·have e1:((C:Int)==0)=true:=by simp[Q]
       have e2:(!((C:Int)==0))=false:=by rw[e1];rfl
       have H:c=c':=by rw[<-he,Q];rfl
       have HV:=H_ H;clear H he Q o hx;go_wp2_with fail;go_roundw
       case rel=>
        refine⟨2,x0,x1,x2,x3,o_,rfl,z.alloc _,H_ ?_,I.alloc _⟩;have o:=HX.out;have H:=HV.out;simp at o ⊢;simp[o,H]
       case measure=>simp[intOf]
      ·have e1:((C:Int)==0)=false:=by simp;omega
       have e2:(!((C:Int)==0))=true:=by rw[e1];rfl
       have H:C=c':=by rw[<-he,rz1 Q]
       have HV:=H_ H;clear H he Q o hx;go_wp2_with fail;go_roundw
       case rel=>
        refine⟨2,x0,C,x2,x3,o_,rfl,(z.store 3 _).alloc _,H_ ?_,(I.setCell _ (.inl s_)).alloc _⟩;have o:=HX.out;have H:=HV.out;simp at o ⊢;simp[o,H]
       case measure=>simp[intOf]
     ·have he:orElse AA a=a':=HA.out
      have o:x0=(if 0 < 2 then f' else f)/\x1=(if 1 < 2 then c' else c)/\x2=(if 2 < 2 then a' else a)/\x3=(if 3 < 2 then l' else l):=hx.out;have HX:=H_ o
      by_cases Q:AA=0
      ·have e1:((AA:Int)==0)=true:=by simp[Q]
       have e2:(!((AA:Int)==0))=false:=by rw[e1];rfl
       have H:a=a':=by rw[<-he,Q];rfl
       have HV:=H_ H;clear H he Q o hx;go_wp2_with fail;go_roundw
       case rel=>
        refine⟨3,x0,x1,x2,x3,o_,rfl,z.alloc _,H_ ?_,I.alloc _⟩;have o:=HX.out;have H:=HV.out;simp at o ⊢;simp[o,H]
       case measure=>simp[intOf]
      ·have e1:((AA:Int)==0)=false:=by simp;omega
       have e2:(!((AA:Int)==0))=true:=by rw[e1];rfl
       have H:AA=a':=by rw[<-he,rz1 Q]
       have HV:=H_ H;clear H he Q o hx;go_wp2_with fail;go_roundw
       case rel=>
        refine⟨3,x0,x1,AA,x3,o_,rfl,(z.store 4 _).alloc _,H_ ?_,(I.setCell _ (.inl s_)).alloc _⟩;have o:=HX.out;have H:=HV.out;simp at o ⊢;simp[o,H]
       case measure=>simp[intOf]
     ·have he:orElse L l=l':=HL.out
      have o:x0=(if 0 < 3 then f' else f)/\x1=(if 1 < 3 then c' else c)/\x2=(if 2 < 3 then a' else a)/\x3=(if 3 < 3 then l' else l):=hx.out;have HX:=H_ o
      by_cases Q:L=0
      ·have e1:((L:Int)==0)=true:=by simp[Q]
       have e2:(!((L:Int)==0))=false:=by rw[e1];rfl
       have H:l=l':=by rw[<-he,Q];rfl
       have HV:=H_ H;clear H he Q o hx;go_wp2_with fail;go_roundw
       case rel=>
        refine⟨4,x0,x1,x2,x3,o_,rfl,z.alloc _,H_ ?_,I.alloc _⟩;have o:=HX.out;have H:=HV.out;simp at o ⊢;simp[o,H]
       case measure=>simp[intOf]
      ·have e1:((L:Int)==0)=false:=by simp;omega
       have e2:(!((L:Int)==0))=true:=by rw[e1];rfl
       have H:L=l':=by rw[<-he,rz1 Q]
       have HV:=H_ H;clear H he Q o hx;go_wp2_with fail;go_roundw
       case rel=>
        refine⟨4,x0,x1,x2,L,o_,rfl,(z.store 5 _).alloc _,H_ ?_,(I.setCell _ (.inl s_)).alloc _⟩;have o:=HX.out;have H:=HV.out;simp at o ⊢;simp[o,H]
       case measure=>simp[intOf]
     ·have o:x0=(if 0 < 4 then f' else f)/\x1=(if 1 < 4 then c' else c)/\x2=(if 2 < 4 then a' else a)/\x3=(if 3 < 4 then l' else l):=hx.out
      simp at o;obtain⟨rfl,rfl,rfl,rfl⟩:=o;have r8:Below w w wr:=f6.trans (I.below f6.size (by intro q hq;simp at hq;omega));have f8:=l1.chg I (fun q hq h=>by
       have:=l1.low q hq;simp at h;omega)
      have f9:=pz5 ⟨g',fs++ad,x0,x1,x2,x3⟩ A3 (N+O) (N+O) wr o_ l_ (g_ f8.nc f8.cm) f8.row;unfold Vw.val at f9;simp only at f9;have a9:=a2.out;generalize r9:(⟨g',fs++ad,x0,x1,x2,x3⟩:Vw)=u at *;obtain⟨ob,l8⟩:=n_ u.ok;rw[<-l8]at f9;have r':=H_ l8;have s0:=H_ r9;have j2:=H_ a9;clear hx r9 l8 a9 a2;clear p0 p1 p2 p3 p4 p5 p6 p7 z0 z1 z2 z3 z4 z5 b6 hQ q' r6 l1 f6 I;go_wp2_with fail;refine f9.mono ?_;rintro e w2 ⟨rfl,J⟩;have d4:=z.below J;have U:=r7.below J;have s1:=f8.below J;have b':=az r8 J;clear f9 o0 o1 o2 o3 o4 o5 z r7 f8 J r8;have o0:=d4.c0;have r0:=U.c0;have z0:=U.free 0;have o1:=d4.c1;have r1:=U.c1;have z1:=U.free 1;have o2:=d4.c2;have r2:=U.c2;have z2:=U.free 2;have o3:=d4.c3;have r3:=U.c3;have z3:=U.free 3;have o4:=d4.c4;have r4:=U.c4;have z4:=U.free 4;have o5:=d4.c5;have r5:=U.c5;have z5:=U.free 5;clear d4 U
      cases ob with
      |false=>
       go_wp2_with fail;refine bodyPost_ret (v:=.tuple #[.agg #[.int .i64 0,.slice none 0 0,.int .u64 0,.int .u64 0,.int .u64 0,.int .u64 0],.bool false]) (by simp[results,go_sem, *]) rfl ?_;unfold vj3;rw[j2.out,<-r'.out,if_neg s_];exact⟨(((((b'.setCell (by simp;omega) _).setCell (by simp;omega) _).setCell (by simp;omega) _).setCell (by simp;omega) _).setCell (by simp;omega) _).setCell (by simp;omega) _,rfl⟩
      |true=>
       go_wp2_with fail;refine bodyPost_ret (v:=.tuple #[.agg #[g',.slice A3 (N+O) (N+O),[x0],[x1],[x2],[x3]],.bool true]) (by simp[results,go_sem, *]) rfl ?_;unfold vj3;rw[j2.out,<-r'.out,if_pos rfl];refine⟨(((((b'.setCell (by simp;omega) _).setCell (by simp;omega) _).setCell (by simp;omega) _).setCell (by simp;omega) _).setCell (by simp;omega) _).setCell (by simp;omega) _,A3,N+O,N+O,by rw[<-s0.out];rfl,?_⟩;have v3:∀q,A3=some q->q.block≠(w:Nat)+1+1:=fun q hq=>by
        have:=s1.low q hq;omega
       have E:=(((((tq w2 ⟨(w:Nat)+1+1,0,none⟩ (.int .i64 g')).setCell (p:=⟨(w:Nat)+1+1,1,none⟩) (.slice A3 (N+O) (N+O)) (.inl s_)).setCell (p:=⟨(w:Nat)+1+1,2,none⟩) (.int .u64 x0) (.inl s_)).setCell (p:=⟨(w:Nat)+1+1,3,none⟩) (.int .u64 x1) (.inl s_)).setCell (p:=⟨(w:Nat)+1+1,4,none⟩) (.int .u64 x2) (.inl s_)).setCell (p:=⟨(w:Nat)+1+1,5,none⟩) (.int .u64 x3) (.inl s_);have i3:=s1.chg E (fun q hq h=>v3 q hq (by simpa using h));rw[<-s0.out];exact⟨i3.row,B_ _,g_ i3.nc i3.cm,fun q hq=>by have:=i3.low q hq;omega⟩
theorem ev2 {P:Program} {ops:Array Oper} {o:Oper} {a:Act} {w:World} {K:Act->World->Prop} {Q:Exit->Act->World->Prop} {E:Prop} (U:o.guard=none) (s x:Operand) (t:TypeId)
  (ho:o.op=.call { callee:=.builtin .append,args:=#[s,x],argTypes:=#[t,t] })
  (base:Nat) (e:TypeId) (i:TypeInfo) (z:Value) (size bytes:Nat) (ht:P.underlying t=some (.slice e)) (hi:P.info? e=some i) (hz:i.zero=some z)
  (H:i.size=size) (a0:i.bytes=bytes) (a1:z.cells.size=size) (a2:0 < size) (I:base<=(w:Nat)) (v:Value) (n:Nat) (xs:List Value) (hs:a.eval s=v) (J:w.ownsRow base e size v n xs)
  (B:Nat) (A:Option Addr) (m c:Nat) (news:List Value) (hx:a.eval x=.slice A m c) (hr:Row B w A m size news) (h1:∀u∈news,u.oneCell'=true)
  (N:Nat) (X:List Value) (hN:n+m=N) (hX:xs++news=X) (a4:N<=maxLen) (C:N *bytes<=140737488355328)
  (h:∀A' c' w',w'.ownsRow base e size (.slice A' N c') N X->w.grownBy w' v.ownBlock->N<=c'->c'<=maxLen->((Value.slice A' N c').ownBlock=v.ownBlock\/(Value.slice A' N c').ownBlock=some (w:Nat))->K (a.put o.dst (.slice A' N c')) w'):
  if Region.wanted o (yielded ops a.tmps)=true then Oper.wp P o a w K Q else E:=by
 have hw:Region.wanted o (yielded ops a.tmps)=true:=by simp[Region.wanted,U]
 rw[if_pos hw];subst hN;subst hX;obtain⟨A',c',w',O,h3,h4,h5,h7,h6⟩:=zj2 (P:=P) w base t o.type e i z size bytes ht hi hz H a0 a1 a2 v n xs J B A m c news hr h1 a4 C I;unfold Oper.wp execOp;simp only[ho,resolve,invoke,builtin,Sem.run_bind,Sem.run_pure,Result.andThen_ok,bN_,al_,bc_,hs,hx,O];exact h A' c' w' h3 h4 h5 h7 h6
theorem ix1.base {B B' n c:Nat} {w:World} {A:Option Addr} {fs:List (Int×Int)} (h:ix1 B w A n c fs) (o:B'<=B):ix1 B' w A n c fs:=⟨h.row,h.nc,h.cm,fun a z=>g_ o (h.low a z)⟩
theorem BoxO.grown {w w':World} {e:TypeId} {g:Nat} {xs:List Value} (h:BoxO w e g xs) (o:w.grownBy w' none):BoxO w' e g xs:=(o.block g h.lt s_).trans h
theorem tx4 (v:Vw) (A:Option Addr) (n c:Nat) (w:World) (hn:n<=100000) (hr:Row w w A n 2 (bz v.files)):
  Calls prog 89 #[v.val A n c] w fun e w'=>∃A' c',e=.returned (v.val A' n c')/\ix1 w w' A' n c' v.files/\Below w w w':=by
 obtain⟨i0,a1,a2,a4,a5⟩:=info_parts kq1;obtain⟨g,fs,f,C,a,l⟩:=v;unfold Vw.val;simp only at hr ⊢;go_enter func89,ntmps89;go_wp2_with (at_builtin;refine iq ?_);have E:Below w w ((w.alloc (.cells #[g,.slice A n c,[f],[C],[a],[l]] 106)).alloc (.cells #[.int .i64 0,.slice none 0 0,.int .u64 0,.int .u64 0,.int .u64 0,.int .u64 0] 106)):=(b_ _ _).alloc s_ _;have hP:=(BoxO.new w #[g,.slice A n c,[f],[C],[a],[l]] 106).alloc (.cells #[.int .i64 0,.slice none 0 0,.int .u64 0,.int .u64 0,.int .u64 0,.int .u64 0] 106);have hR:=BoxO.new (w.alloc (.cells #[g,.slice A n c,[f],[C],[a],[l]] 106)) #[.int .i64 0,.slice none 0 0,.int .u64 0,.int .u64 0,.int .u64 0,.int .u64 0] 106;simp only[F_]at hR;have I:((w.alloc (.cells #[g,.slice A n c,[f],[C],[a],[l]] 106)).alloc (.cells #[.int .i64 0,.slice none 0 0,.int .u64 0,.int .u64 0,.int .u64 0,.int .u64 0] 106)).heap.size=(w:Nat)+1+1:=by simp
 refine gz (yx rfl _ (.tmp 4) _ rfl ((w:Nat)+1+1) 173 i0 _ 2 16 underlying104 a1 a2 a4 a5 rfl o_ ((w.alloc (.cells #[g,.slice A n c,[f],[C],[a],[l]] 106)).alloc (.cells #[.int .i64 0,.slice none 0 0,.int .u64 0,.int .u64 0,.int .u64 0,.int .u64 0] 106)) b0_ (by rw[I];exact B_ _) rfl (w:Nat) A n c (bz fs) rfl (hr.below E) (fw1 _) (by unfold maxLen;omega) o_ ?_);intro U k1 w1 J O H b0 b1;have Q:Below w w w1:=E.trans (O.mono o_);have z:BoxO w1 _ _ _:=hP.grown H;have o:BoxO w1 _ _ _:=hR.grown H;have hF:=fz2 J l_;clear E hP hR I O H J;have q0:=z.c0;have q1:=z.c1;have z1:=z.free 1;have q2:=z.c2;have q3:=z.c3;have q4:=z.c4;have q5:=z.c5;have r0:=o.c0;have y0:=o.free 0;have r1:=o.c1;have y1:=o.free 1;have r2:=o.c2;have y2:=o.free 2;have r3:=o.c3;have y3:=o.free 3;have r4:=o.c4;have y4:=o.free 4;have r5:=o.c5;have y5:=o.free 5;clear z o;go_wp2_with fail;refine bodyPost_ret (v:=.agg #[g,.slice U n k1,[f],[C],[a],[l]]) (by simp[results,go_sem, *]) rfl ⟨U,k1,rfl,?_,?_⟩
 ·have a7:Chg [(w:Nat),(w:Nat)+1] w1 _:=(((((((Chg.refl _ w1).setCell (p:=⟨w,1,none⟩) (.slice U n k1) (.inl s_)).setCell (p:=⟨(w:Nat)+1,0,none⟩) g (.inl s_)).setCell (p:=⟨(w:Nat)+1,1,none⟩) (.slice U n k1) (.inl s_)).setCell (p:=⟨(w:Nat)+1,2,none⟩) (.int .u64 f) (.inl s_)).setCell (p:=⟨(w:Nat)+1,3,none⟩) (.int .u64 C) (.inl s_)).setCell (p:=⟨(w:Nat)+1,4,none⟩) (.int .u64 a) (.inl s_)).setCell (p:=⟨(w:Nat)+1,5,none⟩) (.int .u64 l) (.inl s_)
  exact(hF.chg a7 (fun q hq h=>by
   have:=hF.low q hq;simp at h;omega)).base o_
 ·exact((((((Q.setCell s_ _).setCell s_ _).setCell s_ _).setCell s_ _).setCell s_ _).setCell s_ _).setCell s_ _
theorem kz26 {P S a oi v} (h:Hv P S a oi v:=by intro w o;have u0:=o.2.c0;have u1:=o.2.c1;have u2:=o.2.c2;have u3:=o.2.c3;have u4:=o.2.c4;have u5:=o.2.c5;go_simp;try (with_reducible rfl)):Hv P S a oi v:=h
theorem uk4 (v:Vw) (A:Option Addr) (n c:Nat) (w:World) (hn:n<=100000) (hr:Row w w A n 2 (bz v.files)):
  Calls prog 172 #[v.val A n c] w fun e w'=>∃A' c',e=.returned (v.whole.val none 0 0 A' n c')/\ix1 w w' A' n c' v.files/\Below w w w':=by
 obtain⟨i0,a6,a7,a8,a9⟩:=info_parts kq1;obtain⟨g,fs,f,E,a,l⟩:=v;unfold Vw.val Vw.whole Ed.val;simp only at hr ⊢;go_enter func172,ntmps172;go_wp2_with fail;change Code.wp _ _ _ _ ((w.alloc (.cells #[g,.slice A n c,[f],[E],[a],[l]] 106)).alloc (.cells #[.slice none 0 0,.slice none 0 0,.int .i64 0,.int .u64 0,.int .u64 0,.int .u64 0,.int .u64 0] 135));have I:Below w w ((w.alloc (.cells #[g,.slice A n c,[f],[E],[a],[l]] 106)).alloc (.cells #[.slice none 0 0,.slice none 0 0,.int .i64 0,.int .u64 0,.int .u64 0,.int .u64 0,.int .u64 0] 135)):=(b_ _ _).alloc s_ _;have hP:=(BoxO.new w #[g,.slice A n c,[f],[E],[a],[l]] 106).alloc (.cells #[.slice none 0 0,.slice none 0 0,.int .i64 0,.int .u64 0,.int .u64 0,.int .u64 0,.int .u64 0] 135);have hR:=BoxO.new (w.alloc (.cells #[g,.slice A n c,[f],[E],[a],[l]] 106)) #[.slice none 0 0,.slice none 0 0,.int .i64 0,.int .u64 0,.int .u64 0,.int .u64 0,.int .u64 0] 135;simp only[F_]at hR;have O:((w.alloc (.cells #[g,.slice A n c,[f],[E],[a],[l]] 106)).alloc (.cells #[.slice none 0 0,.slice none 0 0,.int .i64 0,.int .u64 0,.int .u64 0,.int .u64 0,.int .u64 0] 135)).heap.size=(w:Nat)+1+1:=by simp
 have Q:=hr.below I;generalize ((w.alloc (.cells #[g,.slice A n c,[f],[E],[a],[l]] 106)).alloc (.cells #[.slice none 0 0,.slice none 0 0,.int .i64 0,.int .u64 0,.int .u64 0,.int .u64 0,.int .u64 0] 135))=V at *;have U:=H_ Q.drew;have a0:Hid ((w:Nat)+1+1<=V.drew.heap.size):=H_ (a4_ O.symm);clear Q hr O;refine wp_region_held_drew (S:=(fun w'=>Below w w w'/\BoxO w' 106 (w:Nat) [g,.slice A n c,[f],[E],[a],[l]])) rfl ⟨ax I,hP.drew⟩ (fun o=>?_);refine w_v 0 o ?_ (k:=kz26);go_simp;refine w_v 1 o ?_ (k:=kz26);go_simp;refine w_v 3 o ?_ (k:=kz26);go_simp;refine w_v 4 o ?_ (k:=kz26);go_simp;refine w_v 5 o ?_ (k:=kz26);go_simp;refine w_v 6 o ?_ (k:=kz26);go_simp;refine w_v 7 o ?_ (k:=kz26);go_simp;refine w_v 8 o ?_ (k:=kz26);go_simp;refine w_v 9 o ?_ (k:=kz26);go_simp;refine w_v 10 o ?_ (k:=kz26);go_simp;refine w_v 11 o ?_ (k:=kz26);go_simp;refine w_v 12 o ?_ (k:=kz26);go_simp;refine w_r 2 fun K hK=>?_;refine ev2 rfl (.const (.slice none 0 0)) (.tmp 4) _ rfl ((w:Nat)+1+1) 173 i0 _ 2 16 underlying104 a6 a7 a8 a9 rfl o_ a0.out (.slice none 0 0) 0 [] rfl (G_ _ _ _ _) w A n c (bz fs) rfl U.out (fw1 _) n _ (am_ _) (D_ _) (by unfold maxLen;omega) o_ ?_;intro A4 c4 w4 C H _ _ _;have a2:=fz2 (B:=(w:Nat)+1+1) C l_;have z:BoxO w4 _ _ _:=hR.drew.grown H;have J:=(⟨o.1.grown H o.1.size (fun k hk=>by cases hk),o.2.grown H⟩:Below w w w4/\BoxO w4 106 (w:Nat) [g,.slice A n c,[f],[E],[a],[l]]);refine hK.out _ _ J (fun b1=>?_);clear hK K o b1;have o:=J;clear J C H hR hP I U a0;go_simp;refine w_v 13 o ?_ (k:=kz26);go_simp;have r0:=z.c0;have y0:=z.free 0;have r1:=z.c1;have y1:=z.free 1;have r2:=z.c2;have y2:=z.free 2;have r3:=z.c3;have y3:=z.free 3;have r4:=z.c4;have y4:=z.free 4;have r5:=z.c5;have y5:=z.free 5;have r6:=z.c6;have y6:=z.free 6;have a4:Chg [(w:Nat)+1] w4 _:=(((((((Chg.refl _ w4).setCell (p:=⟨(w:Nat)+1,0,none⟩) (.slice none 0 0) (.inl s_)).setCell (p:=⟨(w:Nat)+1,1,none⟩) (.slice A4 n c4) (.inl s_)).setCell (p:=⟨(w:Nat)+1,2,none⟩) g (.inl s_)).setCell (p:=⟨(w:Nat)+1,3,none⟩) (.int .u64 f) (.inl s_)).setCell (p:=⟨(w:Nat)+1,4,none⟩) (.int .u64 E) (.inl s_)).setCell (p:=⟨(w:Nat)+1,5,none⟩) (.int .u64 a) (.inl s_)).setCell (p:=⟨(w:Nat)+1,6,none⟩) (.int .u64 l) (.inl s_);refine w_r 14 fun K hK=>?_;go_simp;refine hK.out _ _ ⟨(((((((o.1.setCell s_ _).setCell s_ _).setCell s_ _).setCell s_ _).setCell s_ _).setCell s_ _).setCell s_ _),o.2.chg a4 s_⟩ ?_;clear o hK K;intro o;go_simp;refine w_d ?_;go_wp2_with fail;refine bodyPost_ret (v:=.agg #[.slice none 0 0,.slice A4 n c4,g,[f],[E],[a],[l]]) (by simp[results,go_sem, *]) rfl ⟨A4,c4,rfl,?_,o.1⟩;exact(a2.chg a4 (fun q hq h=>by
  have:=a2.low q hq;simp at h;omega)).base o_
def qw4 (w:World) (P:Ed×Nat) (x:Ending) (w':World):Prop:=∃D m d A n c,x=.returned (.tuple #[P.1.val D m d A n c,(P.2:Int)])/\Row w' w' D m 1 (pz P.1.drop)/\Row w' w' A n 2 (bz P.1.add)/\
 (∀a,D=some a->(w:Nat)<=a.block)/\(∀a,A=some a->(w:Nat)<=a.block)/\Below w w w'
structure Rst (w:World) (rb:Nat) (D:Option Addr) (m:Nat) (ds:List Int) (W:World) (ec:List Value) (A:Option Addr) (N c:Nat) (l:List UInt8) (ok:Bool):Prop where
 e:BoxO W 135 ((w:Nat)+1) ec
 res:BoxO W 135 (w:Nat) [.slice none 0 0,.slice none 0 0,.int .i64 0,.int .u64 0,.int .u64 0,.int .u64 0,.int .u64 0]
 rd:BoxO W 282 rb [.slice A N c,.bool ok]
 row:Row w W A N 1 (bts l)
 nc:N<=c
 nb:N<=100000000
 dr:Row rb W D m 1 (pz ds)
 dl:∀a,D=some a->(w:Nat)+1+1<=a.block
 bel:Below w w W
 hi:(w:Nat)+1+1<=rb
section
variable {w W W':World} {rb m N c:Nat} {D A:Option Addr} {ds:List Int} {ec:List Value} {l:List UInt8} {ok:Bool}
theorem Rst.lt (h:Rst w rb D m ds W ec A N c l ok):rb < (W:Nat):=h.rd.lt
theorem Rst.drew (h:Rst w rb D m ds W ec A N c l ok):Rst w rb D m ds W.drew ec A N c l ok:=⟨h.e.drew,h.res.drew,h.rd.drew,h.row.drew,h.nc,h.nb,h.dr.drew,h.dl,ax h.bel,h.hi⟩
theorem Rst.later (h:Rst w rb D m ds W ec A N c l ok) (o:Below (rb+1) W W'):Rst w rb D m ds W' ec A N c l ok:=
 have h1:=h.hi
 ⟨(o.block _ o_).trans h.e,(o.block _ o_).trans h.res,(o.block _ o_).trans h.rd,h.row.below (o.mono o_),h.nc,h.nb,h.dr.below (o.mono o_),h.dl,h.bel.trans (o.mono o_),h.hi⟩
theorem Rst.below (h:Rst w rb D m ds W ec A N c l ok) (o:Below W W W'):Rst w rb D m ds W' ec A N c l ok:=h.later (o.mono h.lt)
theorem Rst.store (h:Rst w rb D m ds W ec A N c l ok) (j:Nat) (v:Value):Rst w rb D m ds (W.setCell ⟨(w:Nat)+1,j,none⟩ v) (ec.set j v) A N c l ok:=
 have h1:=h.hi;have o:=tq W ⟨(w:Nat)+1,j,none⟩ v;have z:=h.lt
 ⟨h.e.store j v,h.res.chg o s_,h.rd.chg o (by simp;omega),h.row.setCell s_ v,h.nc,h.nb,o.row h.dr (b8_ z) (fun a C E=>by have:=h.dl a C;simp at E;omega),h.dl,h.bel.setCell s_ v,h.hi⟩
theorem Rst.take (h:Rst w rb D m ds W ec A N c l ok) (most:Nat) (E:most < 18446744073709551616):
  Calls prog 204 #[rb,[most]] W fun x W'=>∃A' z c',x=.returned (.int .u64 ((Rd.take most (l,ok)).1:Int))/\Rst w rb D m ds W' ec A' z c' (Rd.take most (l,ok)).2.1 (Rd.take most (l,ok)).2.2/\Chg [rb] W W':=by
 have h1:=h.hi;have h2:=h.nb;refine(uv4 w rb o_ A N c l ok most W o_ h.nc E h.rd h.row).mono ?_;rintro x W' ⟨A',z,c',rfl,C,H,I,J,o⟩;exact⟨A',z,c',rfl,⟨h.e.chg o (by simp;omega),h.res.chg o (by simp;omega),J,I,C,o_,h.dr.keep (fun p Q=>o.cell (by have:=h.lt;omega) (by simp;omega)),h.dl,h.bel.trans (o.below h.bel.size (by intro q O;simp at O;omega)),h.hi⟩,o⟩
end
theorem ak5 {ns:List Nat} {k:Nat} (h:k < ns.length):ns.take (k+1)=ns.take k++[ns[k]]:=(ak_ h).symm
def clamp (n:Nat):Int:=((min n 1073741825:Nat):Int)
theorem pw4 (A:Option Addr) (N c0:Nat) (b:List UInt8) (w:World) (hN:N<=100000000) (t6:N<=c0) (hr:Row w w A N 1 (bts b)):
  Calls prog 152 #[.slice A N c0] w (qw4 w (Ed.read b)):=by
 obtain⟨i0,t8,t9,t',u0⟩:=info_parts kq1;obtain⟨j0,u1,u2,u3,u4⟩:=info_parts by2;have B8:=hr.xk;have j2:=Pn.wv4 b 40;have Q:Ed.read b=if (Pn.vw b 40).2.2≠0 then (Ed.zero,3) else if Ed.good (Rd.tail ((Pn.vw b 40).1.map clamp) (Rd.files (Rd.take 40 (b.drop (Pn.vw b 40).2.1,true)).2 (Rd.take 40 (b.drop (Pn.vw b 40).2.1,true)).1).1 (Rd.files (Rd.take 40 (b.drop (Pn.vw b 40).2.1,true)).2 (Rd.take 40 (b.drop (Pn.vw b 40).2.1,true)).1).2)=true then ((Rd.tail ((Pn.vw b 40).1.map clamp) (Rd.files (Rd.take 40 (b.drop (Pn.vw b 40).2.1,true)).2 (Rd.take 40 (b.drop (Pn.vw b 40).2.1,true)).1).1 (Rd.files (Rd.take 40 (b.drop (Pn.vw b 40).2.1,true)).2 (Rd.take 40 (b.drop (Pn.vw b 40).2.1,true)).1).2).1,0) else (Ed.zero,3):=rfl
 have j3:=fun W (hW:Row W.heap.size W A N 1 (bts b))=>cj4 A N c0 b 40 W o_ t6 o_ hW;generalize Ed.read b=R at *;generalize Pn.vw b 40=U at *;obtain⟨us,sz,er⟩:=U;simp only at Q j2 j3;have d6:=H_ Q;have l6:=H_ j3;have HR:=H_ hr;clear Q j3 hr;go_enter func152,ntmps152;go_wp2_with fail;have f9:Below w w ((w.alloc (.cells #[.slice none 0 0,.slice none 0 0,.int .i64 0,.int .u64 0,.int .u64 0,.int .u64 0,.int .u64 0] 135)).alloc (.cells #[.slice none 0 0,.slice none 0 0,.int .i64 0,.int .u64 0,.int .u64 0,.int .u64 0,.int .u64 0] 135)):=(b_ _ _).alloc s_ _;have a8:=(BoxO.new w #[.slice none 0 0,.slice none 0 0,.int .i64 0,.int .u64 0,.int .u64 0,.int .u64 0,.int .u64 0] 135).alloc (.cells #[.slice none 0 0,.slice none 0 0,.int .i64 0,.int .u64 0,.int .u64 0,.int .u64 0,.int .u64 0] 135);have hE:=BoxO.new (w.alloc (.cells #[.slice none 0 0,.slice none 0 0,.int .i64 0,.int .u64 0,.int .u64 0,.int .u64 0,.int .u64 0] 135)) #[.slice none 0 0,.slice none 0 0,.int .i64 0,.int .u64 0,.int .u64 0,.int .u64 0,.int .u64 0] 135;simp only[F_]at hE;have l7:((w.alloc (.cells #[.slice none 0 0,.slice none 0 0,.int .i64 0,.int .u64 0,.int .u64 0,.int .u64 0,.int .u64 0] 135)).alloc (.cells #[.slice none 0 0,.slice none 0 0,.int .i64 0,.int .u64 0,.int .u64 0,.int .u64 0,.int .u64 0] 135)).heap.size=(w:Nat)+1+1:=by simp
 generalize ((w.alloc (.cells #[.slice none 0 0,.slice none 0 0,.int .i64 0,.int .u64 0,.int .u64 0,.int .u64 0,.int .u64 0] 135)).alloc (.cells #[.slice none 0 0,.slice none 0 0,.int .i64 0,.int .u64 0,.int .u64 0,.int .u64 0,.int .u64 0] 135))=V at *;refine(l6.out _ ((HR.out.below f9).up f9.size)).mono ?_;rintro x w1 ⟨A1,k1,c1,rfl,g4,d9⟩;have l8:=hE.below d9;have C:=a8.below d9;have b7:=az f9 d9;have x6:(w:Nat)+1+1<=(w1:Nat):=by have:=d9.size;omega
 have C0:=(Row.own g4).tz5;have i3:=own_base g4 (a4_ l7.symm);have d':∀a,A1=some a->(w:Nat)+1+1<=a.block:=fun a ha=>by
  obtain⟨_,_,e0,_,_,e7⟩:=ay i3;injection e0 with h1 h2 h3;subst h1;exact(e7 a ha).1
 have e9:=Row.own g4;clear hE a8 f9 d9 g4 i3 l7 l6;have zero:∀(W:World),BoxO W 135 (w:Nat) [.slice none 0 0,.slice none 0 0,.int .i64 0,.int .u64 0,.int .u64 0,.int .u64 0,.int .u64 0]->Below w w W->R=(Ed.zero,3)->qw4 w R (.returned (.tuple #[.agg #[.slice none 0 0,.slice none 0 0,.int .i64 0,.int .u64 0,.int .u64 0,.int .u64 0,.int .u64 0],.int .i64 3])) ((((((((W.setCell w (.slice none 0 0)).setCell (w,1) (.slice none 0 0)).setCell (w,2) (.int .i64 0)).setCell (w,3) (.int .u64 0)).setCell (w,4) (.int .u64 0)).setCell (w,5) (.int .u64 0)).setCell (w,6) (.int .u64 0))):=by
  intro W hB u7 hR;rw[hR];exact⟨none,0,0,none,0,0,rfl,Row.nil_,Row.nil_,(fun a ha=>by cases ha),(fun a ha=>by cases ha),((((((u7.setCell s_ _).setCell s_ _).setCell s_ _).setCell s_ _).setCell s_ _).setCell s_ _).setCell s_ _⟩
 have g8:=H_ zero;clear zero
 by_cases l9:er=0
 case neg=>
  have C1:((er:Int)==0)=false:=by simp;omega
  have C2:¬(er:Int)=0:=o_
  have hR:R=(Ed.zero,3):=by rw[d6.out,if_pos l9]
  have u':=H_ hR;have r0:=C.c0;have r1:=C.c1;have r2:=C.c2;have r3:=C.c3;have r4:=C.c4;have r5:=C.c5;have r6:=C.c6;have y0:=C.free 0;have y1:=C.free 1;have y2:=C.free 2;have y3:=C.free 3;have y4:=C.free 4;have y5:=C.free 5;have y6:=C.free 6;clear hR;go_wp2_with fail;refine bodyPost_ret (v:=.tuple #[.agg #[.slice none 0 0,.slice none 0 0,.int .i64 0,.int .u64 0,.int .u64 0,.int .u64 0,.int .u64 0],.int .i64 3]) (by simp[results,go_sem, *]) rfl ?_;exact g8.out w1 C b7 u'.out
 case pos=>
 subst l9;obtain⟨x7,x8⟩:=j2 rfl;have Q:=d6.out;rw[if_neg s_]at Q;have e':=H_ Q;rw[show ((0:Nat):Int)=0 from rfl];clear j2 Q d6;go_wp2_with fail
 go_loopw [23] (fun x wr=>∃(k:Nat) (D:Option Addr) (d:Nat),k<=k1/\x=.int .i64 k/\BoxO wr 135 ((w:Nat)+1) [.slice D k d,.slice none 0 0,.int .i64 0,.int .u64 0,.int .u64 0,.int .u64 0,.int .u64 0]/\wr.ownsRow w1 3 1 (.slice D k d) k (pz ((us.take k).map clamp))/\Chg [(w:Nat)+1] w1 wr) (fun x _=>k1 - (intOf x).toNat)
 case atStart=>exact⟨0,none,0,A_ _,rfl,l8,G_ _ _ _ _,Chg.refl _ _⟩
 case round=>
  obtain⟨k,D,d,hk,rfl,hE,H,b3⟩:=hrel;have x9:=b3.size;have x':=hE.lt
  by_cases m6:k < k1
  ·obtain⟨ua,hl,rfl,C4,C5⟩:=(b3.row e9 l_ (fun a ha h=>by have:=d' a ha;simp at h;omega)).un m6
   have m7:=ak5 hl;generalize us[k]=u at *;have HT:=H_ m7;obtain⟨q,hq⟩:∃q:Nat,q=min u 1073741825:=⟨_,rfl⟩;have m8:clamp u=(q:Int):=by rw[hq];rfl
   have y8:min (u:Int) 1073741825=(q:Int):=o_
   have C7:IntKind.i64.wrap (q:Int)=(q:Int):=by rw[IntKind.wrap_i64];omega
   have HQ:=H_ m8;have C9:q<=1073741825:=o_
   have q0:=hE.c0;have z0:=hE.free 0;have m9:=Row.new (n:=1) (size:=1) wr #[(q:Int)] 3 rfl;clear m7 hl hq m8;go_wp2_with (at_builtin;refine iq ?_);refine gz (iy rfl (.tmp 28) (.tmp 32) _ rfl (w1:Nat) 3 j0 _ 1 8 underlying73 u1 u2 u3 u4 rfl o_ (wr.alloc (.cells #[(q:Int)] 3)) b0_ (by simp;omega) (.slice D k d) k (pz ((us.take k).map clamp)) rfl (H.alloc _) ((wr:Nat)+1) _ 1 1 [(q:Int)] rfl m9 (by simp[Value.oneCell']) (k+1) _ rfl rfl (by unfold maxLen;omega) o_ ?_);intro A3 c3 w3 b8 m' n0 b9 C';have g':BoxO w3 _ _ _:=(m'.block _ o_).trans (hE.alloc _);have i4:Chg [(w:Nat)+1] w1 w3:=(b3.alloc (.cells #[(q:Int)] 3)).trans (Chg.qy n0 (F:=(Value.slice D k d).ownBlock.toList) (fun b hb=>by simp[hb])) (fun g hg=>.inr (by
    have:(Value.slice D k d).ownBlock=some g:=by simpa using hg
    exact(H.lt g this).1))
   clear hE H b3 m' n0 m9 q0 z0;have q0:=g'.c0;have z0:=g'.free 0;have n1:=g'.store 0 (.slice A3 (k+1) c3);simp only[T_]at n1;have n2:=i4.setCell (p:=⟨(w:Nat)+1,0,none⟩) (.slice A3 (k+1) c3) (.inl s_);have v8:=jv b8 (tq w3 ⟨(w:Nat)+1,0,none⟩ (.slice A3 (k+1) c3)) (fun g hg h=>by
    have:=(b8.lt g hg).1;simp at h;omega)
   clear g' b8 i4;go_wp2_with fail;go_roundw
   case rel=>
    refine⟨k+1,A3,c3,o_,by go_num,n1,?_,n2⟩;rw[HT.out,aK_,List.map_singleton,HQ.out];simpa [pz] using v8
   case measure=>simp[intOf];omega
  ·obtain rfl:k1=k:=o_
   have n3:us.take k1=us:=i_ o_;rw[n3]at H;have a8:=C.chg b3 s_;have a':=b7.trans (b3.below b7.size (by intro q hq;simp at hq;omega));have f1:∀a,D=some a->(w:Nat)+1+1<=a.block:=fun a ha=>by
    obtain⟨_,_,e0,_,_,e7⟩:=ay H;injection e0 with h1 h2 h3;subst h1;have:=(e7 a ha).1;omega
   have n4:sz<=N:=o_
   have y':sz<=c0:=o_
   obtain⟨A0,n5⟩:∃A0,(if c0=sz then A else Option.map (fun x=>x.add sz) A)=A0:=⟨_,rfl⟩;have b':=lx1 HR.out n4 (A':=A0) (fun m6=>by rw[<-n5,if_neg o_]);have j5:Rst w wr D k1 (us.map clamp) (wr.alloc (.cells #[.slice A0 (N - sz) (c0 - sz),.bool true] 282)) [.slice D k1 d,.slice none 0 0,.int .i64 0,.int .u64 0,.int .u64 0,.int .u64 0,.int .u64 0] A0 (N - sz) (c0 - sz) (b.drop sz) true:=
    ⟨hE.alloc _,a8.alloc _,BoxO.new wr #[.slice A0 (N - sz) (c0 - sz),.bool true] 282,(b'.below a').alloc a'.size _,o_,o_,(Row.own H).alloc l_ _,f1,a'.alloc a'.size _,o_⟩
   have n6:(wr:Nat) < (wr.alloc (.cells #[.slice A0 (N - sz) (c0 - sz),.bool true] 282)).heap.size:=by simp
   clear hE a8 H b' a' f1 n3 b3 HR l8 C b7 e9 d';have hj:(0:Int)<=(sz:Int):=o_
   go_wp2_with fail;obtain⟨rb,j6⟩:=n_ (wr:Nat);simp only[<-j6]at j5 n6 ⊢;generalize wr.alloc (.cells #[.slice A0 (N - sz) (c0 - sz),.bool true] 282)=V2 at *;have D1:=H_ j6;clear j6;refine(j5.take 40 o_).mono ?_;rintro x w2 ⟨A2,N2,c2,rfl,j7,-⟩;clear j5;obtain⟨K,hK⟩:=n_ ((Rd.take 40 (b.drop sz,true)).1);obtain⟨r0,b'⟩:=n_ ((Rd.take 40 (b.drop sz,true)).2);have z1:K<=40:=by rw[hK];exact Rd.pz1 _ _
   have Q:=e'.out;rw[<-hK,<-b']at Q;rw[<-b']at j7;have f2:=H_ Q;simp only[<-hK];clear hK b' Q e';go_wp2_with fail
   go_loopw [43] (fun x wr=>∃(k:Nat) (A3:Option Addr) (d3:Nat) (A N c:_),k<=K/\x=.int .u64 k/\Rst w rb D k1 (us.map clamp) wr [.slice D k1 d,.slice A3 k d3,.int .i64 0,.int .u64 0,.int .u64 0,.int .u64 0,.int .u64 0] A N c (Rd.files r0 k).2.1 (Rd.files r0 k).2.2/\wr.ownsRow (rb+1) 173 2 (.slice A3 k d3) k (bz (Rd.files r0 k).1)) (fun x _=>K - (intOf x).toNat)
   case atStart=>exact⟨0,none,0,A2,N2,c2,A_ _,rfl,j7,G_ _ _ _ _⟩
   case round=>
    obtain⟨k,A3,d3,A4,N4,c4,hk,rfl,hS,H⟩:=hrel;clear j7
    by_cases z7:k < K
    ·have d0:Rd.files r0 (k+1)=((Rd.files r0 k).1++[(((Rd.take 3 (Rd.files r0 k).2).1:Int),((Rd.take 1073741824 (Rd.take 3 (Rd.files r0 k).2).2).1:Int))],(Rd.take 1073741824 (Rd.take 3 (Rd.files r0 k).2).2).2):=rfl
     generalize Rd.files r0 k=P at *;obtain⟨fl,l,ok⟩:=P;simp only at hS H d0;have b0:=hS.take 3 o_;have v9:=Rd.pz1 3 (l,ok);generalize Rd.take 3 (l,ok)=P1 at *;obtain⟨lv,l1,f3⟩:=P1;simp only at b0 v9 d0;have i6:=Rd.pz1 1073741824 (l1,f3);obtain⟨P2,j8⟩:=n_ (Rd.take 1073741824 (l1,f3));rw[<-j8]at d0 i6;have x0:=H_ j8;clear j8;obtain⟨nm,l2,h0⟩:=P2;simp only at d0 i6;have n8:=H_ d0;clear d0;have x1:IntKind.i64.wrap (lv:Int)=(lv:Int):=by rw[IntKind.wrap_i64];omega
     have D3:IntKind.i64.wrap (nm:Int)=(nm:Int):=by rw[IntKind.wrap_i64];omega
     go_wp2_with fail;refine b0.mono ?_;rintro x w3 ⟨A5,N5,c5,rfl,j9,b9⟩;have b8:=jv H b9 (fun g hg h=>by
      have:=(H.lt g hg).1;simp at h;omega)
     have a2:=j9.drew.take 1073741824 o_;rw[show ((1073741824:Nat):Int)=1073741824 from rfl]at a2;rw[<-x0.out]at a2;simp only at a2;have j':=H_ b8;have f4:Calls prog 204 #[rb,.int .u64 1073741824] w3.drew fun x w4=>∃A6 N6 c6,x=.returned (.int .u64 nm)/\Rst w rb D k1 (us.map clamp) w4 [.slice D k1 d,.slice A3 k d3,.int .i64 0,.int .u64 0,.int .u64 0,.int .u64 0,.int .u64 0] A6 N6 c6 l2 h0/\
       w4.cell? ⟨(w:Nat)+1,1,none⟩=some (.slice A3 k d3)/\Hid (w4.ownsRow (rb+1) 173 2 (.slice A3 k d3) k (bz fl))/\rb < (w4:Nat):=by
      refine a2.mono ?_;rintro x w4 ⟨A6,N6,c6,rfl,d1,b1⟩;refine⟨A6,N6,c6,rfl,d1,?_,jv (G:=[rb]) j'.out (show Chg [rb] w3 w4 from ⟨b1.os,b1.tape,b1.output,b1.size,b1.block⟩) (fun g hg h=>by have:=(j'.out.lt g hg).1;simp at h;omega),d1.lt⟩;have e2:=d1.e.cell 1;simpa only[gE0,gE1] using e2
     have f5:=H_ f4;have e1:=j9.e.c1;clear b0 a2 hS H b9 b8 f4;have z8:k<=40:=o_
     go_wp2_with fail
     go_region_law (first
      |(go_simp;(with_reducible refine(f5.out).mono ?_);rintro x w4 ⟨A6,N6,c6,rfl,d1,e2,k0,D6⟩;have D7:=fun o=>(ap_ w4 o _ (S_ w4 _ e2)).trans e2;go_simp)
      |(refine ev2 rfl (.tmp 49) (.tmp 55) _ rfl (rb+1) 173 i0 _ 2 16 underlying104 t8 t9 t' u0 rfl o_ (by simp;omega) (.slice A3 k d3) k (bz fl) rfl (k0.out.alloc _) ((w4:Nat)+1) _ 1 1 [(lv:Int),(nm:Int)] rfl (Row.new (n:=1) (size:=2) w4 #[(lv:Int),(nm:Int)] 173 rfl) (by simp[Value.oneCell']) (k+1) (bz (fl++[((lv:Int),(nm:Int))])) rfl (by simp[bz]) (by unfold maxLen;omega) o_ ?_;intro A7 d7 w5 n9 n' _ _ _;have f6:=(d1.later ((Below.refl (rb+1) w4).alloc o_ (.cells #[(lv:Int),(nm:Int)] 173))).later ((Below.refl (rb+1) _).grown n' (by simp;omega) (fun g hg=>(k0.out.lt g hg).1));have e5:=f6.e.c1;have z5:=f6.e.free 1;have o0:=H_ n9;clear n9 n'))
     all_goals
      have o1:=f6.store 1 (.slice A7 (k+1) d7);simp only[Q_,T_]at o1;have x2:=jv o0.out (tq w5 ⟨(w:Nat)+1,1,none⟩ (.slice A7 (k+1) d7)) (fun g hg h=>by
       have h1:=(o0.out.lt g hg).1;have h2:=f6.hi;simp at h;omega)
      clear k0 j' f6 d1 j9 f5;go_wp2_with fail;go_roundw
      case rel=>exact⟨k+1,A7,d7,A6,N6,c6,o_,by go_num,by rw[n8.out];exact o1,by rw[n8.out];exact x2⟩
      case measure=>simp[intOf];omega
    ·obtain rfl:K=k:=o_
     have I:R=if Ed.good (Rd.tail (us.map clamp) (Rd.files r0 K).1 (Rd.files r0 K).2)=true then ((Rd.tail (us.map clamp) (Rd.files r0 K).1 (Rd.files r0 K).2).1,0) else (Ed.zero,3):=f2.out
     have a5:=Row.own H;have b5:∀a,A3=some a->rb+1<=a.block:=fun a ha=>by
      obtain⟨_,_,e0,_,_,e7⟩:=ay H;injection e0 with h1 h2 h3;subst h1;exact(e7 a ha).1
     have x3:=a5.flen;generalize Rd.files r0 K=P at *;obtain⟨fl,l,ok⟩:=P;simp only at hS a5 I x3;have f7:=H_ a5;clear H a5 f2 n5;unfold Rd.tail at I;have o2:=Rd.pz1 1073741824 (l,ok);have h6:=hS.take 1073741824 o_;rw[show ((1073741824:Nat):Int)=1073741824 from rfl]at h6;generalize Rd.take 1073741824 (l,ok)=P0 at *;obtain⟨lg,l1,f3⟩:=P0;simp only at h6 o2 I;have J:=H_ I;clear I;have x1:IntKind.i64.wrap (lg:Int)=(lg:Int):=by rw[IntKind.wrap_i64];omega
     have o3:=Chg.refl [rb,(w:Nat)+1] wr;have o4:=H_ h6;clear h6 hS;go_wp2_with fail;refine o4.out.mono ?_;rintro x w3 ⟨A5,N5,c5,rfl,h7,o5⟩;clear o4;have h8:=o3.trans o5 s_;have e2:=h7.e.c2;have z2:=h7.e.free 2;have k2:=h7.store 2 (.int .i64 lg);have h8:=h8.setCell (p:=⟨(w:Nat)+1,2,none⟩) (.int .i64 lg) (.inl s_);simp only[Q_,T_]at k2;have o6:=Rd.pz1 281474976710656 (l1,f3);have b0:=k2.take 281474976710656 o_;rw[show ((281474976710656:Nat):Int)=281474976710656 from rfl]at b0;have I:=J.out;clear J;generalize Rd.take 281474976710656 (l1,f3)=P1 at *;obtain⟨fo,l2,h0⟩:=P1;simp only at b0 o6 I;have J:=H_ I;clear I;have o7:=H_ b0;clear b0 o3 o5 h7 k2;go_wp2_with fail;refine o7.out.mono ?_;rintro x w4 ⟨A6,N6,c6,rfl,o8,o9⟩;clear o7;have o':=h8.trans o9 s_;clear e2 z2 h8 o9;have p0:=Rd.pz1 281474976710656 (l2,h0);have a2:=o8.take 281474976710656 o_;rw[show ((281474976710656:Nat):Int)=281474976710656 from rfl]at a2;have I:=J.out;clear J;generalize Rd.take 281474976710656 (l2,h0)=P2 at *;obtain⟨ce,l3,p1⟩:=P2;simp only at a2 p0 I;have J:=H_ I;clear I;have f5:=H_ a2;clear a2;go_wp2_with fail;refine f5.out.mono ?_;rintro x w5 ⟨A7,N7,c7,rfl,d2,p2⟩;clear f5 o8;have h':=o'.trans p2 s_;have e3:=d2.e.c3;have z3:=d2.e.free 3;have e4:=d2.e.c4;have z4:=d2.e.free 4;have k3:=(d2.store 3 (.int .u64 fo)).store 4 (.int .u64 ce);have h':=(h'.setCell (p:=⟨(w:Nat)+1,3,none⟩) (.int .u64 fo) (.inl s_)).setCell (p:=⟨(w:Nat)+1,4,none⟩) (.int .u64 ce) (.inl s_);simp only[Q_,T_]at k3;have p3:=Rd.pz1 281474976710656 (l3,p1);have i1:=k3.take 281474976710656 o_;rw[show ((281474976710656:Nat):Int)=281474976710656 from rfl]at i1;have I:=J.out;clear J;generalize Rd.take 281474976710656 (l3,p1)=P3 at *;obtain⟨at_,l4,p4⟩:=P3;simp only at i1 p3 I;have J:=H_ I;clear I;have p5:=H_ i1;clear i1 o' p2 d2 k3;go_wp2_with fail;refine p5.out.mono ?_;rintro x w6 ⟨A8,N8,c8,rfl,p6,b9⟩;clear p5;have p7:=h'.trans b9 s_;clear e3 e4 z3 z4 h' b9;have p8:=Rd.pz1 281474976710656 (l4,p4);have i2:=p6.take 281474976710656 o_;rw[show ((281474976710656:Nat):Int)=281474976710656 from rfl]at i2;have I:=J.out;clear J;generalize Rd.take 281474976710656 (l4,p4)=P4 at *;obtain⟨le,l5,x4⟩:=P4;simp only at i2 p8 I;have J:=H_ I;clear I;have p9:=H_ i2;clear i2;go_wp2_with fail;refine p9.out.mono ?_;rintro x w7 ⟨A9,N9,c9,rfl,d4,b1⟩;clear p9 p6;have p':=p7.trans b1 s_;have e5:=d4.e.c5;have z5:=d4.e.free 5;have e6:=d4.e.c6;have z6:=d4.e.free 6;have z:=(d4.store 5 (.int .u64 at_)).store 6 (.int .u64 le);have k4:=(p'.setCell (p:=⟨(w:Nat)+1,5,none⟩) (.int .u64 at_) (.inl s_)).setCell (p:=⟨(w:Nat)+1,6,none⟩) (.int .u64 le) (.inl s_);simp only[Q_,T_]at z;have b2:=k4.row f7.out l_ (fun a ha h=>by
      have h1:=b5 a ha;have h2:=z.hi;simp at h;omega)
     have b2:=b2.up k4.size;clear f7 p7 p' k4 b1 d4;have r0:=z.rd.c0;have r1:=z.rd.c1;have s0:=z.res.c0;have s1:=z.res.c1;have s2:=z.res.c2;have s3:=z.res.c3;have s4:=z.res.c4;have s5:=z.res.c5;have s6:=z.res.c6;have y0:=z.res.free 0;have y1:=z.res.free 1;have y2:=z.res.free 2;have y3:=z.res.free 3;have y4:=z.res.free 4;have y5:=z.res.free 5;have y6:=z.res.free 6;have v0:=z.e.c0;have v1:=z.e.c1;have v2:=z.e.c2;have v3:=z.e.c3;have v4:=z.e.c4;have v5:=z.e.c5;have v6:=z.e.c6;go_upto_region 19 with (fail)
     generalize ((w7.setCell ⟨(w:Nat)+1,5,none⟩ (.int .u64 at_)).setCell ⟨(w:Nat)+1,6,none⟩ (.int .u64 le))=W at *;clear e5 e6 z5 z6;have q8:=z.row.xk
     cases x4 with
     |false=>
      have HB:=H_ (J.out.trans (if_neg (by simp[Ed.good])));have a6:=z.bel;have O:=z.res;clear J b2 v0 v1 v2 v3 v4 v5 v6 z;go_wp2_with fail;refine bodyPost_ret (v:=.tuple #[.agg #[.slice none 0 0,.slice none 0 0,.int .i64 0,.int .u64 0,.int .u64 0,.int .u64 0,.int .u64 0],.int .i64 3]) (by simp[results,go_sem, *]) rfl ?_;exact g8.out W O a6 HB.out
     |true=>
      by_cases h9:N9=0
      case neg=>
       have B5:(0:Int) < (N9:Int):=o_
       have HB:=H_ (J.out.trans (if_neg (by
        have:l5.isEmpty=false:=by
         cases l5 with
         |nil=>simp at q8;omega
         |cons a t=>rfl
        simp[Ed.good,this])))
       have a6:=z.bel;have O:=z.res;clear J b2 v0 v1 v2 v3 v4 v5 v6 z;go_wp2_with fail;refine bodyPost_ret (v:=.tuple #[.agg #[.slice none 0 0,.slice none 0 0,.int .i64 0,.int .u64 0,.int .u64 0,.int .u64 0,.int .u64 0],.int .i64 3]) (by simp[results,go_sem, *]) rfl ?_;exact g8.out W O a6 HB.out
      case pos=>
       subst h9;obtain rfl:=aN_ q8;have a0:=ow3 ⟨us.map clamp,fl,(lg:Int),fo,ce,at_,le⟩ D k1 d A3 K d3 W o_ o_ (z.dr.up (b8_ z.lt)) b2;unfold Ed.val at a0;simp only at a0
       cases hm:Ed.may ⟨us.map clamp,fl,(lg:Int),fo,ce,at_,le⟩ with
       |false=>
        rw[hm]at a0;have HB:=H_ (J.out.trans (if_neg (by simp[Ed.good,hm])));have HM:=H_ a0;clear J b2 hm a0;go_wp2_with fail;refine HM.out.mono ?_;rintro x w8 ⟨rfl,b6⟩;have O:=z.res.below b6;have a6:=az z.bel b6;clear s0 s1 s2 s3 s4 s5 s6 y0 y1 y2 y3 y4 y5 y6 v0 v1 v2 v3 v4 v5 v6 z b6 r0 r1;have s0:=O.c0;have s1:=O.c1;have s2:=O.c2;have s3:=O.c3;have s4:=O.c4;have s5:=O.c5;have s6:=O.c6;have y0:=O.free 0;have y1:=O.free 1;have y2:=O.free 2;have y3:=O.free 3;have y4:=O.free 4;have y5:=O.free 5;have y6:=O.free 6;go_wp2_with fail;refine bodyPost_ret (v:=.tuple #[.agg #[.slice none 0 0,.slice none 0 0,.int .i64 0,.int .u64 0,.int .u64 0,.int .u64 0,.int .u64 0],.int .i64 3]) (by simp[results,go_sem, *]) rfl ?_;exact g8.out w8 O a6 HB.out
       |true=>
        rw[hm]at a0;have HB:=H_ (J.out.trans (if_pos (by simp[Ed.good,hm])));have HM:=H_ a0;clear J hm a0;go_wp2_with fail;refine HM.out.mono ?_;rintro x w8 ⟨rfl,b6⟩;have E:=z.below b6;have i':=(b2.below b6).up b6.size;clear s0 s1 s2 s3 s4 s5 s6 y0 y1 y2 y3 y4 y5 y6 v0 v1 v2 v3 v4 v5 v6 r0 r1;have s0:=E.res.c0;have s1:=E.res.c1;have s2:=E.res.c2;have s3:=E.res.c3;have s4:=E.res.c4;have s5:=E.res.c5;have s6:=E.res.c6;have y0:=E.res.free 0;have y1:=E.res.free 1;have y2:=E.res.free 2;have y3:=E.res.free 3;have y4:=E.res.free 4;have y5:=E.res.free 5;have y6:=E.res.free 6;have v0:=E.e.c0;have v1:=E.e.c1;have v2:=E.e.c2;have v3:=E.e.c3;have v4:=E.e.c4;have v5:=E.e.c5;have v6:=E.e.c6;have d5:=(((((((Chg.refl [(w:Nat)] w8).setCell (p:=⟨w,0,none⟩) (.slice D k1 d) (.inl s_)).setCell (p:=⟨w,1,none⟩) (.slice A3 K d3) (.inl s_)).setCell (p:=⟨w,2,none⟩) (.int .i64 lg) (.inl s_)).setCell (p:=⟨w,3,none⟩) (.int .u64 fo) (.inl s_)).setCell (p:=⟨w,4,none⟩) (.int .u64 ce) (.inl s_)).setCell (p:=⟨w,5,none⟩) (.int .u64 at_) (.inl s_)).setCell (p:=⟨w,6,none⟩) (.int .u64 le) (.inl s_);have a6:=E.bel;have q9:=(E.dr.up (b8_ E.lt));have q':=(d5.row q9 l_ (fun a ha h=>by have:=E.dl a ha;simp at h;omega)).up d5.size;have r7:=(d5.row i' l_ (fun a ha h=>by have h1:=b5 a ha;have h2:=E.hi;simp at h;omega)).up d5.size;have f8:qw4 w R (.returned (.tuple #[.agg #[.slice D k1 d,.slice A3 K d3,(lg:Int),[fo],[ce],[at_],[le]],.int .i64 0])) (((((((w8.setCell w (.slice D k1 d)).setCell (w,1) (.slice A3 K d3)).setCell (w,2) (.int .i64 lg)).setCell (w,3) (.int .u64 fo)).setCell (w,4) (.int .u64 ce)).setCell (w,5) (.int .u64 at_)).setCell (w,6) (.int .u64 le)):=by
         rw[HB.out];refine⟨D,k1,d,A3,K,d3,rfl,q',r7,fun a ha=>?_,fun a ha=>?_,a6.trans (d5.below a6.size s_)⟩
         ·have:=E.dl a ha
          omega
         ·have h1:=b5 a ha
          have h2:=E.hi;omega
        have HP:=H_ f8;clear f8 d5 q' r7 q9 i' a6 z E b2 HB;go_wp2_with fail;refine bodyPost_ret (v:=.tuple #[.agg #[.slice D k1 d,.slice A3 K d3,(lg:Int),[fo],[ce],[at_],[le]],.int .i64 0]) (by simp[results,go_sem, *]) rfl ?_;exact HP.out
def put2 (f:Int×Int):List UInt8:=Pn.put f.1.toNat++Pn.put f.2.toNat
theorem ux4 (ns:List Nat):(Pn.list ns).length<=10+ns.length *10:=by
 have h1:=(Pn.jq ns.length).2;have h2:=av2 ns;simp only[Pn.list,e_];omega
theorem gv2 {e:Ed} (h:e.may=true):e.drop.length<=40/\e.add.length<=40/\0<=e.log/\e.log<=1073741824/\e.floor<=281474976710656/\e.cert<=281474976710656/\e.at_<=281474976710656/\e.lease<=281474976710656/\
  (∀n∈e.drop,1<=n/\n<=1073741824)/\(∀f∈e.add,0<=f.1/\f.1<=3/\1<=f.2/\f.2<=1073741824):=by
 simp only[Ed.may,nj2,N_,decide_eq_true_eq]at h;obtain⟨⟨⟨⟨⟨h1,h2⟩,h3⟩,h4⟩,h5⟩,o⟩:=h;refine⟨h1,h2,h3.1,h3.2,h4.1.1.1,h4.1.1.2,h4.1.2,h4.2,fun n z=>?_,fun f C=>?_⟩
 ·have:=Y_.1 h5 n z
  simpa [isNum] using this
 ·have:=Y_.1 o f C
  simp only[zy,isNum,N_,decide_eq_true_eq]at this;exact⟨this.2.1,this.2.2,this.1.1,this.1.2⟩
theorem ek5 (A:Option Addr) (N c0:Nat) (e:Ed) (D:Option Addr) (m d:Nat) (A2:Option Addr) (n c:Nat) (w:World) (C:e.may=false) (O:m<=1000000) (Q:n<=1000000) (E:Row w w D m 1 (pz e.drop)) (H:Row w w A2 n 2 (bz e.add)):
  Calls prog 171 #[.slice A N c0,e.val D m d A2 n c] w fun x w'=>x=.returned (.tuple #[.slice none 0 0,.int .i64 1])/\Below w w w':=by
 have o:=fun W (h:Below w w W)=>ow3 e D m d A2 n c W O Q ((E.below h).up h.size) ((H.below h).up h.size);rw[C]at o;unfold Ed.val at *;have U:=H_ o;clear o E H;go_enter func171,ntmps171;have z:=b_ w (.cells #[.slice D m d,.slice A2 n c,e.log,[e.floor],[e.cert],[e.at_],[e.lease]] 135);go_wp2_with fail;refine(U.out _ z).mono ?_;rintro x w1 ⟨rfl,I⟩;have J:=az z I;clear z I;go_wp2;exact bodyPost_ret (v:=.tuple #[.slice none 0 0,.int .i64 1]) (by simp[results,go_sem]) rfl ⟨rfl,J⟩
theorem uw3 (A:Option Addr) (N c0:Nat) (b:List UInt8) (e:Ed) (D:Option Addr) (m d:Nat) (A2:Option Addr) (n c:Nat) (w:World) (J:e.may=true) (d7:Row w w D m 1 (pz e.drop)) (d8:Row w w A2 n 2 (bz e.add))
  (hN:N<=400000000) (k3:N<=c0) (hc:c0<=maxLen) (hr:Row w w A N 1 (bts b)):
  Calls prog 171 #[.slice A N c0,e.val D m d A2 n c] w fun x w'=>∃A' K c',x=.returned (.tuple #[.slice A' K c',.int .i64 0])/\
   w'.ownsRow w 5 1 (.slice A' K c') K (bts (b++e.rec_))/\K<=c'/\c'<=maxLen/\Below w w w':=by
 have g':=d7.ilen;have h0:=d8.flen;obtain⟨k5,k6,k7,k8,k9,k',l1,l2,f6,b3⟩:=gv2 J;have e5:=Ed.aq1 e J;have O:=fun W (h:Below w w W)=>ow3 e D m d A2 n c W o_ o_ ((d7.below h).up h.size) ((d8.below h).up h.size);rw[J]at O;have e6:e.rec_=Fr.put 6 e.bytes:=rfl;have a5:e.bytes=Pn.list (e.drop.map Int.toNat)++Pn.put e.add.length++e.add.flatMap put2++[e.log.toNat,e.floor,e.cert,e.at_,e.lease].flatMap Pn.put:=by
  simp[Ed.bytes];rfl
 rw[e6];generalize e.bytes=EB at *;obtain⟨ds,fs,G,F,C,AA,L⟩:=e;simp only at g' h0 k5 k6 k7 k8 k9 k' l1 l2 f6 b3 a5 d7 d8;unfold Ed.val at O ⊢;simp only at O ⊢;obtain⟨g,rfl⟩:∃g:Nat,G=(g:Int):=⟨G.toNat,o_⟩;rw[Int.toNat_natCast,h0]at a5;have HM:=H_ O;have h6:=H_ a5;have l3:=H_ e5;have H9:=H_ f6;have l4:=H_ b3;clear O a5 e5 f6 b3 e6 J;have l5:IntKind.u64.wrap (n:Int)=(n:Int):=by rw[IntKind.wrap_u64];omega
 have l6:IntKind.u64.wrap (g:Int)=(g:Int):=by rw[IntKind.wrap_u64];omega
 obtain⟨j0,l7,l8,l9,l'⟩:=info_parts (show (prog.info? 22).map (fun i=>(i.zero,i.size,i.bytes))=some (some (.int .u64 0),1,8) by kernel_rfl);go_enter func171,ntmps171;have f7:=b_ w (.cells #[.slice D m d,.slice A2 n c,(g:Int),.int .u64 F,.int .u64 C,.int .u64 AA,.int .u64 L] 135);have h7:=BoxO.new w #[.slice D m d,.slice A2 n c,(g:Int),.int .u64 F,.int .u64 C,.int .u64 AA,.int .u64 L] 135;go_wp2_with fail;refine(HM.out _ f7).mono ?_;rintro x w1 ⟨rfl,d9⟩;have f8:=h7.below d9;have d':=az f7 d9;have e7:w.heap.size+1<=w1.heap.size:=by have:=d9.size;simp at this;omega
 clear f7 d9 h7 HM;have p0:=f8.c0;go_wp2_with fail
 go_loopw [6,20] (fun s x wr=>∃(k:Nat) (A':Option Addr) (cc:Nat),k<=m/\s=.slice A' k cc/\x=.int .i64 k/\wr.ownsRow (w.heap.size+1) 22 1 (.slice A' k cc) k (u64v ((ds.take k).map Int.toNat))/\
  BoxO wr 135 w.heap.size [.slice D m d,.slice A2 n c,(g:Int),.int .u64 F,.int .u64 C,.int .u64 AA,.int .u64 L]/\Below w w wr/\w.heap.size+1<=wr.heap.size) (fun _ x _=>m - (intOf x).toNat)
 case atStart=>exact⟨0,none,0,A_ _,rfl,rfl,G_ _ _ _ _,f8,d',e7⟩
 case round=>
  obtain⟨k,A',cc,hk,rfl,rfl,z,hx,a1,m0⟩:=hrel;clear f8 d' e7 p0
  by_cases m1:k < m
  ·obtain⟨da,hl,rfl,p8,p9⟩:=(d7.below a1).int_ m1
   have h8:=H9.out ds[k] (w_ hl);have Q:ds.take (k+1)=ds.take k++[ds[k]]:=(ak_ hl).symm;generalize ds[k]=x at *;obtain⟨q,rfl⟩:∃q:Nat,x=(q:Int):=⟨x.toNat,o_⟩;have HT:=H_ Q;clear Q hl;have p':IntKind.u64.wrap (q:Int)=(q:Int):=by rw[IntKind.wrap_u64];omega
   have H:=Row.new (n:=1) (size:=1) wr #[.int .u64 q] 22 rfl;go_wp2_with (at_builtin;refine iq ?_);refine gz (iy rfl (.tmp 24) (.tmp 27) _ rfl (w.heap.size+1) 22 j0 _ 1 8 underlying277 l7 l8 l9 l' rfl o_ (wr.alloc (.cells #[.int .u64 q] 22)) b0_ (by simp;omega) (.slice A' k cc) k (u64v ((ds.take k).map Int.toNat)) rfl (z.alloc _) (wr.heap.size+1) _ 1 1 [.int .u64 q] rfl H (by simp[Value.oneCell']) (k+1) _ rfl rfl (by unfold maxLen;omega) o_ ?_);intro A3 c3 w3 E o m2 a2 a9;have b5:BoxO w3 _ _ _:=(o.block _ o_).trans (hx.alloc _);have a6:=(a1.alloc a1.size (.cells #[.int .u64 q] 22)).trans (o.mono o_);have b6:w.heap.size+1<=w3.heap.size:=by have:=o.size;simp at this;omega
   clear z hx a1 o m2 H;go_wp2_with fail;go_roundw
   case rel=>
    refine⟨k+1,A3,c3,o_,rfl,by go_num,?_,b5,a6,b6⟩;rw[HT.out];simpa [u64v] using E
   case measure=>simp[intOf];omega
  ·obtain rfl:m=k:=o_
   have b7:(ds.take m).map Int.toNat=ds.map Int.toNat:=by rw[i_ o_]
   rw[b7]at z;obtain⟨ns,U⟩:=n_ (ds.map Int.toNat);rw[<-U]at z;have e9:ns.length=m:=by rw[U,aG_,g']
   have b8:∀x∈ns,x < 18446744073709551616:=by
    intro x hx;rw[U]at hx;obtain⟨y,hy,rfl⟩:=aP_.1 hx;have:=H9.out y hy;omega
   have a':=h6.out;rw[<-U]at a';have e':=H_ a';have H:=(Row.own z).drew;have h':=ux4 ns;have b9:=(Pn.jq n).2;have HR:=H_ H;have HN:=H_ b8;have i0:=hx.lt;have i1:=hx.c1;have i2:∀w2,Below wr wr.drew w2->w2.cell? ⟨w,1,none⟩=some (.slice A2 n c):=fun w2 h=>(h.cell (p:=⟨w,1,none⟩) i0).trans i1;have i3:=H_ i2;have i4:=H_ h';have f9:=H_ b9;have e1:=H_ e9;clear b7 U b8 a' h6 H h' b9 e9 i2 z;go_upto_region 9 with (fail)
   go_cut [9] (fun s wx=>∃A3 M3 c3,s=.slice A3 M3 c3/\wx.ownsRow w 5 1 (.slice A3 M3 c3) M3 (bts (Pn.list ns++Pn.put n))/\M3<=500/\M3<=c3/\c3<=maxLen/\Below wr wr wx)
   case first=>
    go_region_with (first
     |(go_at_call 228;refine(oz5 none 0 0 [] A' m cc ns _ o_ o_ Row.nil_ HR.out HN.out).mono ?_;rintro e w2 ⟨A3,M3,c3,rfl,E,m3,a2,o⟩;have q1:=i3.out w2 o)
     |(go_at_call 175;refine(put_any _ _ _ ([] ++Pn.list ns) n o_ _ (by have h1:=E.1;rw[uq,D_]at h1;have:=i4.out;have:=e1.out;omega) (Row.own E)).mono ?_;rintro e w3 ⟨A4,c4,rfl,i5,m4,m5,m6⟩))
    all_goals
     go_wp2_with fail
     go_meet
     refine⟨_,_,_,rfl,own_base i5 (g_ a1.size o.size:w.heap.size<=w2.heap.size),?_,m4,m5,((Below.refl wr wr).drew.trans o).trans (m6.mono o.size)⟩;have h1:=i5.1;have h2:=i4.out;have h3:=f9.out;have h4:=e1.out;rw[uq,D_,e_]at h1;omega
   case rest=>
    obtain⟨A3,M3,c3,rfl,E,m3,a2,a9,o⟩:=hcut;have b5:=hx.below o;have a6:=az a1 o;have b6:w.heap.size+1<=wc.heap.size:=by have:=o.size;omega
    clear hx a1 o i3 HR i1 m0 HN;have p1:=b5.c1;go_wp2_with fail
    go_loopw [9,40] (fun s x wr=>∃(k:Nat) (A':Option Addr) (M cc:Nat),k<=n/\s=.slice A' M cc/\x=.int .i64 k/\wr.ownsRow w 5 1 (.slice A' M cc) M (bts (Pn.list ns++Pn.put n++(fs.take k).flatMap put2))/\M<=500+20 *k/\M<=cc/\cc<=maxLen/\
     BoxO wr 135 w.heap.size [.slice D m d,.slice A2 n c,(g:Int),.int .u64 F,.int .u64 C,.int .u64 AA,.int .u64 L]/\Below w w wr) (fun _ x _=>n - (intOf x).toNat)
    case atStart=>exact⟨0,A3,M3,c3,A_ _,rfl,rfl,by simpa using E,o_,a2,a9,b5,a6⟩
    case round=>
     obtain⟨k,A5,M5,c5,hk,rfl,rfl,b',m8,m9,m',a0,I⟩:=hrel;clear E b5 a6 b6 p1
     by_cases a7:k < n
     ·obtain⟨fa,hl,rfl,q4,f0,f1⟩:=(d8.below I).file a7
      have h8:=l4.out fs[k] (w_ hl);have Q:fs.take (k+1)=fs.take k++[fs[k]]:=(ak_ hl).symm;generalize fs[k]=x at *;obtain⟨x0,x1⟩:=x;simp only at h8 f0 f1;obtain⟨lv,rfl⟩:∃q:Nat,x0=(q:Int):=⟨x0.toNat,o_⟩;obtain⟨nm,rfl⟩:∃q:Nat,x1=(q:Int):=⟨x1.toNat,o_⟩;have HT:=H_ Q;have q5:IntKind.u64.wrap (lv:Int)=(lv:Int):=by rw[IntKind.wrap_u64];omega
      have o5:IntKind.u64.wrap (nm:Int)=(nm:Int):=by rw[IntKind.wrap_u64];omega
      have e2:=BoxO.new wr #[(lv:Int),(nm:Int)] 173;have i6:Row _ _ A5 M5 1 _:=((Row.own b').alloc l_ (.cells #[(lv:Int),(nm:Int)] 173)).drew;have i7:=b_ wr (.cells #[(lv:Int),(nm:Int)] 173);clear Q hl b';go_wp2_with fail;change Code.wp _ _ _ _ (wr.alloc (.cells #[(lv:Int),(nm:Int)] 173));have i8:=a0.alloc (.cells #[(lv:Int),(nm:Int)] 173);have c9:=az I i7;generalize wr.alloc (.cells #[(lv:Int),(nm:Int)] 173)=V at *;have d0:=e2.lt;have v0:=e2.c0;have v1:=e2.c1;have hd:∀w2,Below V V.drew w2->w2.cell? wr.heap.size=some (.int .i64 lv)/\w2.cell? ⟨wr,1,none⟩=some (.int .i64 nm):=fun w2 h=>⟨(h.cell (p:=⟨wr,0,none⟩) d0).trans v0,(h.cell (p:=⟨wr,1,none⟩) d0).trans v1⟩;have HD:=H_ hd;have i9:=H_ (i6.up (B':=V.drew.heap.size) (b8_ d0));have i':=(Pn.jq lv).2;have j2:=(Pn.jq nm).2;have j3:=H_ i';have n1:=H_ j2;clear hd i6 i7 a0 I i' j2 f0 f1
      go_region_with (first
       |(go_at_call 175;(with_reducible refine(put_any A5 M5 c5 (Pn.list ns++Pn.put n++(fs.take k).flatMap put2) lv o_ _ o_ i9.out).mono ?_);rintro e w2 ⟨A6,c6,rfl,b0,q7,q8,d1⟩;obtain⟨q0,q1⟩:=HD.out w2 d1)
       |(go_at_call 175;(with_reducible refine(put_any A6 _ c6 (Pn.list ns++Pn.put n++(fs.take k).flatMap put2++Pn.put lv) nm o_ _ (by have:=j3.out;omega) (Row.own b0)).mono ?_);rintro e w3 ⟨A7,c7,rfl,j4,n2,n3,j5⟩))
      all_goals
       have g4:=((Below.refl V V).drew.trans d1).trans (j5.mono d1.size);have n4:=i8.below g4;have j6:=az c9 g4;have n5:=own_base (base':=w.heap.size) j4 (g_ c9.size d1.size);clear d1 j5 g4 i8 c9 b0 j4 e2 i9 HD v0 v1;go_wp2_with fail;go_roundw
       case rel=>
        refine⟨k+1,A7,_,c7,o_,rfl,by go_num,?_,by have h1:=j3.out;have h2:=n1.out;omega,n2,n3,n4,j6⟩;rw[HT.out];simpa [put2,J_] using n5
       case measure=>simp[intOf];omega
     ·obtain rfl:n=k:=o_
      have j7:fs.take n=fs:=i_ o_;rw[j7]at b';have p2:=a0.c2;have p3:=a0.c3;have p4:=a0.c4;have p5:=a0.c5;have p6:=a0.c6;have r4:M5<=1300:=o_
      clear j7 a0 a7 m8;go_wp2_with fail;have e3:=I.alloc I.size (.cells #[.int .u64 g,.int .u64 F,.int .u64 C,.int .u64 AA,.int .u64 L] 22);have H:=xv2 wr 22 #[.int .u64 g,.int .u64 F,.int .u64 C,.int .u64 AA,.int .u64 L] [g,F,C,AA,L] 5 rfl rfl;have b0:=b'.alloc (.cells #[.int .u64 g,.int .u64 F,.int .u64 C,.int .u64 AA,.int .u64 L] 22);clear p2 p3 p4 p5 p6 b' I;change Code.wp _ _ _ _ (wr.alloc (.cells #[.int .u64 g,.int .u64 F,.int .u64 C,.int .u64 AA,.int .u64 L] 22));generalize wr.alloc (.cells #[.int .u64 g,.int .u64 F,.int .u64 C,.int .u64 AA,.int .u64 L] 22)=V at *;generalize wr.heap.size=hp at *;have b7:∀n∈[g,F,C,AA,L],n < 18446744073709551616:=by
       intro n hn;simp at hn;omega
      have a':=e'.out;have j8:[g,F,C,AA,L].length=5:=rfl;have HN:=H_ b7;have e1:=H_ j8;generalize f3:[g,F,C,AA,L]=vs at *;have f4:=H_ a';have HD:=H_ f3;clear b7 a' e' j8 f3 l6 l5;obtain⟨LL,g8⟩:=n_ (Pn.list ns++Pn.put n++fs.flatMap put2);rw[<-g8]at b0;have d2:=f4.out;rw[<-g8]at d2;have j9:=H_ d2;clear g8 d2 f4
      go_loopw [9,67] (fun s x j'=>∃(k:Nat) (A':Option Addr) (M c':Nat),k<=5/\s=.slice A' M c'/\x=.int .i64 k/\M<=1300+10 *k/\j'.ownsRow w 5 1 (.slice A' M c') M (bts (LL++(vs.take k).flatMap Pn.put))/\M<=c'/\c'<=maxLen/\Below V V j') (fun _ x _=>5 - (intOf x).toNat)
      case atStart=>exact⟨0,A5,M5,c5,o_,rfl,rfl,o_,by simpa using b0,m9,m',Below.refl _ _⟩
      case round=>
       obtain⟨k,A',M,c',hk,rfl,rfl,hM,z,n6,n7,d3⟩:=hrel
       by_cases a7:k < 5
       ·obtain⟨aa,hl,he,r6,hc⟩:=(H.below d3).un a7
        injection he with he;subst he;have n9:=HN.out vs[k] (w_ hl);have Q:vs.take (k+1)=vs.take k++[vs[k]]:=(ak_ hl).symm;generalize vs[k]=x at *;have HT:=H_ Q;clear Q;rw[vv2]at hc;go_wp2_with fail;refine(put_any A' M c' _ x n9 wr o_ (Row.own z)).mono ?_;rintro e w2 ⟨A3,c3,rfl,E,a2,a9,o⟩;have b9:=(Pn.jq x).2;have d4:=own_base E (g_ e3.size d3.size);have f9:=H_ b9;clear b9 E;go_wp2_with fail;go_roundw
        case rel=>
         refine⟨k+1,A3,M+(Pn.put x).length,c3,o_,rfl,by go_num,by have h:=f9.out;omega,?_,a2,a9,az d3 o⟩;rw[HT.out];simpa [J_] using d4
        case measure=>simp[intOf];omega
       ·obtain rfl:k=5:=o_
        have f5:LL++(vs.take 5).flatMap Pn.put=EB:=by
         rw[i_ (by have:=e1.out;omega)];exact j9.out.symm
        rw[f5]at z;have e4:=e3.trans (d3.mono e3.size);have r7:=l3.out;clear f5 H b0 d3 e3;have hq:=Row.own z;clear z;go_wp2_with fail;refine(lv1 A N c0 b 6 A' M c' _ wr o_ k3 hc ((hr.below e4).up e4.size) (by decide) (by decide) o_ n6 n7 hq).mono ?_;rintro e w2 ⟨A3,K,c3,rfl,E,a2,a9,o⟩;have d4:=own_base E e4.size;have d':=az e4 o;clear E o;go_wp2;exact bodyPost_ret (v:=.tuple #[.slice A3 K c3,.int .i64 0]) (by simp[results,go_sem]) rfl ⟨A3,K,c3,rfl,d4,a2,a9,d'⟩
namespace Fr
theorem fv2:∀(f:Nat) (l:List UInt8) (e:Nat) (ks:List Nat) (bs:List (List UInt8)),ks.length=bs.length->(splitF f l e ks bs).1.length=(splitF f l e ks bs).2.1.length
 |0,_,_,_,_,h=>h
 |f+1,l,e,ks,bs,h=>by
  rw[splitF];split
  ·split
   ·exact fv2 f l _ _ _ (by simp[h])
   ·exact h
  ·exact h
theorem take_len (l:List UInt8) (p:Nat):(take l p).2.1.length<=60000:=by
 unfold take;split
 ·simp
 ·split
  ·simp
  ·split
   ·simp
   ·split
    ·simp
    ·split
     ·simp
     ·simp only[y_]
      omega
theorem rv2:∀(f:Nat) (l:List UInt8) (e:Nat) (ks:List Nat) (bs:List (List UInt8)),(∀b∈bs,b.length<=60000)->∀b∈(splitF f l e ks bs).2.1,b.length<=60000
 |0,_,_,_,_,h=>h
 |f+1,l,e,ks,bs,h=>by
  rw[splitF];split
  ·split
   ·refine rv2 f l _ _ _ (fun b o=>?_)
    rcases q_.1 o with h1|h1
    ·exact h b h1
    ·rw[c_.1 h1]
     exact take_len l e
   ·exact h
  ·exact h
theorem pv2 (l:List UInt8):(split l).1.length=(split l).2.1.length:=fv2 _ l 0 [] [] rfl
theorem bv3 (l:List UInt8):∀b∈(split l).2.1,b.length<=60000:=rv2 _ l 0 [] [] (fun b o=>by cases o)
theorem lw2:∀(f:Nat) (l:List UInt8) (e:Nat) (ks:List Nat) (bs:List (List UInt8)),e<=l.length->bs.length *12<=e->(splitF f l e ks bs).2.1.length *12<=l.length
 |0,l,e,ks,bs,h1,h2=>by rw[splitF];simp only;omega
 |f+1,l,e,ks,bs,h1,h2=>by
  rw[splitF];split
  ·split
   ·rename_i o
    obtain⟨h3,h4⟩:=vj1 o;exact lw2 f l _ _ _ h4 (by simp;omega)
   ·simp only;omega
  ·simp only;omega
theorem tw2 (l:List UInt8):(split l).2.1.length *12<=l.length:=lw2 _ l 0 [] [] z_ s_
end Fr
def nv4 (w:World) (o:Option (Vw×Nat×Nat)) (x:Ending) (w':World):Prop:=Below w w w'/\match o with
 |none=>x=.returned (.tuple #[Vw.none_.val none 0 0,.int .i64 0,.int .i64 0,.int .i64 9])
 |some (v,k,stop)=>∃A n c,x=.returned (.tuple #[v.val A n c,(k:Int),(stop:Int),.int .i64 0])/\n<=40/\ix1 w w' A n c v.files
theorem Vw.mw4 {v u:Vw} {e:Ed} (h:v.app e=some u):u.files.length<=40:=by
 have:=Vw.av6 h;simp only[Vw.ok,N_,decide_eq_true_eq]at this;omega
theorem az5 (A:Option Addr) (N c0:Nat) (t:List UInt8) (w:World) (hN:N<=100000000) (m0:N<=c0) (hc:c0<=maxLen) (hr:Row w w A N 1 (bts t)):
  Calls prog 87 #[.slice A N c0] w (nv4 w (Vw.views t)):=by
 have d4:=fun W (hW:Row W.heap.size W A N 1 (bts t))=>ik3 A N c0 t W o_ m0 hc hW;have a4:=Fr.pv2 t;have d9:=Fr.bv3 t;have d':=Fr.tw2 t;have q2:=hr.xk;have a':Vw.views t=if ((Fr.split t).2.2.2≠0/\(Fr.split t).2.2.2≠4)\/(Fr.split t).2.1=[] then none else (Vw.steps ((Fr.split t).1.zip (Fr.split t).2.1)).map fun v=>(v,(Fr.split t).2.1.length,(Fr.split t).2.2.1):=rfl
 generalize Vw.views t=R at *;generalize Fr.split t=sp at *;obtain⟨ks,bs,stop,er⟩:=sp;simp only at d4 a4 d9 a' d';have j3:=H_ d4;have c9:=H_ d9;have H:=H_ a';have HR:=H_ hr;clear d4 d9 a' hr;go_enter func87,ntmps87;go_wp2_with fail;refine(j3.out _ ((HR.alloc l_ _).up s_)).mono ?_;rintro e w1 ⟨kv,bv,rfl,z,h7⟩;have j4:=BoxO.new w #[.int .i64 0,.slice none 0 0,.int .u64 0,.int .u64 0,.int .u64 0,.int .u64 0] 106;have hV:=j4.below h7;have hb:=az (b_ w _) h7;simp only[F_]at z;clear h7 j4 j3 HR;have zero:∀(W:World),Below w w W->R=none->nv4 w R (.returned (.tuple #[.agg #[.int .i64 0,.slice none 0 0,.int .u64 0,.int .u64 0,.int .u64 0,.int .u64 0],.int .i64 0,.int .i64 0,.int .i64 9])) ((((((W.setCell w (.int .i64 0)).setCell (w,1) (.slice none 0 0)).setCell (w,2) (.int .u64 0)).setCell (w,3) (.int .u64 0)).setCell (w,4) (.int .u64 0)).setCell (w,5) (.int .u64 0)):=by
  intro W m3 hR;rw[hR];exact⟨(((((m3.setCell s_ _).setCell s_ _).setCell s_ _).setCell s_ _).setCell s_ _).setCell s_ _,rfl⟩
 have HZ:=H_ zero;clear zero;obtain⟨vs,j6,-⟩:=z.row;obtain⟨Ak,kc,m4,-⟩:=ay z.kinds;obtain⟨Ab,bc,m5,-⟩:=ay j6;subst m4 m5;rw[a4]at z ⊢;obtain⟨n,hn⟩:∃n,bs.length=n:=⟨_,rfl⟩;rw[hn]at z d' ⊢;have q5:n *12<=N:=o_
 clear j6;have v0:=hV.c0;have v1:=hV.c1;have v2:=hV.c2;have v3:=hV.c3;have v4:=hV.c4;have v5:=hV.c5;have y0:=hV.free 0;have y1:=hV.free 1;have y2:=hV.free 2;have y3:=hV.free 3;have y4:=hV.free 4;have y5:=hV.free 5
 by_cases e':er≠0/\er≠4
 ·have e1:((er:Int)==0)=false:=by simp;omega
  have e2:((er:Int)==4)=false:=by simp;omega
  have HB:=H_ (H.trans (if_pos (.inl e')));clear e' z H c9;go_wp2;refine bodyPost_ret (v:=.tuple #[.agg #[.int .i64 0,.slice none 0 0,.int .u64 0,.int .u64 0,.int .u64 0,.int .u64 0],.int .i64 0,.int .i64 0,.int .i64 9]) (by simp[results,go_sem, *]) rfl ?_;exact HZ.out w1 hb HB
 by_cases j8:n=0
 ·subst j8
  have HB:=H_ (H.trans (if_pos (.inr (aN_ hn))));clear z H c9;have e0:er=0\/er=4:=o_
  rcases e0 with rfl|rfl
  all_goals
   go_wp2;refine bodyPost_ret (v:=.tuple #[.agg #[.int .i64 0,.slice none 0 0,.int .u64 0,.int .u64 0,.int .u64 0,.int .u64 0],.int .i64 0,.int .i64 0,.int .i64 9]) (by simp[results,go_sem, *]) rfl ?_;exact HZ.out w1 hb HB
 have h8:=H.trans (if_neg (by
  simp only[not_or];exact⟨e',fun e=>j8 (by rw[<-hn,e];rfl)⟩))
 obtain⟨Z,hZ⟩:=n_ (ks.zip bs);rw[<-hZ,hn]at h8;have r6:Z.length=n:=by rw[hZ,List.length_zip];omega
 obtain⟨gk,gb,r7,r8,ek,eb⟩:=av3 z a4 o_;rw[hn]at ek eb;injection ek with ek _ m6;injection eb with eb _ m7;subst ek m6 eb m7;have e0:er=0\/er=4:=o_
 have r9:((n:Int)==0)=false:=by simp;omega
 have j9:=H_ h8;have m8:=H_ hZ;clear h8 hZ H e' v0 v1 v2 v3 v4 v5 y0 y1 y2 y3 y4 y5
 rcases e0 with rfl|rfl
 all_goals
  go_wp2
  go_loopw [4,35] (fun st i wr=>∃(k:Nat) (v:Vw) (A1:Option Addr) (m1 c1:Nat),k<=n/\st=.int .i64 stop/\i=.int .i64 k/\m1<=40/\BoxO wr 106 (w:Nat) (v.cells A1 m1 c1)/\ix1 ((w:Nat)+1) wr A1 m1 c1 v.files/\Hid (Vw.steps (Z.take k)=some v)/\Chg [(w:Nat)] w1 wr) (fun _ i _=>n - (intOf i).toNat)
  case atStart=>exact⟨0,Vw.none_,none,0,0,A_ _,rfl,rfl,o_,hV,⟨Row.nil_,B_ _,A_ _,fun a h=>by cases h⟩,H_ rfl,Chg.refl _ _⟩
  case round=>
   obtain⟨k,v,A1,m1,c1,hk,rfl,rfl,m9,E,e3,f2,a6⟩:=hrel;have b7:=z.chg a6 o_
   by_cases r':k < n
   ·obtain⟨x,Ab,Mb,cb,j',d1,d2,k0,e4⟩:=uq5 b7 a4 (k:=k) o_
    have k1:k < bs.length:=o_
    have k2:Z[k]'o_=(x,bs[k]):=by
     have hx:=C_.1 j';simp only[m8.out,List.getElem_zip,hx.2]
    have I:=Vw.fv4 (l:=Z) (k:=k) o_;rw[k2,f2.out]at I;have d0:Vw.step (some v) (x,bs[k])=none->R=none:=fun h=>by
     rw[j9.out,Vw.jq4 (I.trans h)];rfl
    have h9:=c9.out bs[k] (w_ k1);have m':=e4.xk;have g4:∀(P:Ed×Nat),P=Ed.read bs[k]->Vw.step (some v) (x,bs[k])=if P.2=0/\x=6 then v.app P.1 else none:=fun P hP=>by subst hP;rfl
    have k3:=pw4 Ab Mb cb bs[k] wr o_ k0 e4;have g8:=@Ed.jq5 bs[k];generalize Ed.read bs[k]=P at *;obtain⟨J,re⟩:=P;have d4:=g4 _ rfl;rw[d4]at d0 I;simp only at d0 I;have Q:=H_ d0;have O:=H_ I;clear f2 j' k2 g4 d4 d0 I h9 m' e4 k1 c9;go_wp2_with fail;refine k3.mono ?_;rintro e w2 ⟨Dd,md,dd,Aa,na,ca,rfl,i1,i2,-,-,k4⟩;simp only at i1 i2;unfold Ed.val;simp only;have d6:=b_ w2 (.cells #[.slice Dd md dd,.slice Aa na ca,J.log,[J.floor],[J.cert],[J.at_],[J.lease]] 135);have a7:=BoxO.new w2 #[.slice Dd md dd,.slice Aa na ca,J.log,[J.floor],[J.cert],[J.at_],[J.lease]] 135;simp only at a7;have a8:=az k4 d6;have C:=E.below a8;have d3:=e3.below a8;have a1:=(i1.below d6).up d6.size;have a2:=(i2.below d6).up d6.size;have d7:Chg [(w:Nat)] w1 (w2.alloc (.cells #[.slice Dd md dd,.slice Aa na ca,J.log,[J.floor],[J.cert],[J.at_],[J.lease]] 135)):=a6.trans (Chg.of_below a8 []) (fun g hg=>by cases hg);have a0:=hb.trans (d7.below hb.size s_);have n1:(w2.alloc (.cells #[.slice Dd md dd,.slice Aa na ca,J.log,[J.floor],[J.cert],[J.at_],[J.lease]] 135)).cell? (gk,k)=some (.int .i64 x):=(X_ (a8.block gk (lt_of_cell d1))).trans d1;go_upto_region 8 with (fail)
    generalize w2.alloc (.cells #[.slice Dd md dd,.slice Aa na ca,J.log,[J.floor],[J.cert],[J.at_],[J.lease]] 135)=VE at *;generalize (w2:Nat)=ge at *;clear d1 d2 k4 a8 d6 E a6 b7 k0 k3 e3 i1 i2;have p1:=lt_of_cell n1;have o0:=C.cell 0;have z0:=C.free 0;have o1:=C.cell 1;have z1:=C.free 1;have o2:=C.cell 2;have z2:=C.free 2;have o3:=C.cell 3;have z3:=C.free 3;have o4:=C.cell 4;have z4:=C.free 4;have o5:=C.cell 5;have z5:=C.free 5;simp only[Vw.cells,gE0,gE1]at o0 o1 o2 o3 o4 o5;have b0:=a7.c0;have b1:=a7.c1;have b2:=a7.c2;have b3:=a7.c3;have b4:=a7.c4;have b5:=a7.c5;have b6:=a7.c6
    by_cases i3:re=0
    case neg=>
     have e1:((re:Int)==0)=false:=by simp;omega
     have HB:=H_ (Q.out (if_neg (fun h=>i3 h.1)));clear O Q i3 a1 a2 d7 C d3;go_wp2;refine bodyPost_ret (v:=.tuple #[.agg #[.int .i64 0,.slice none 0 0,.int .u64 0,.int .u64 0,.int .u64 0,.int .u64 0],.int .i64 0,.int .i64 0,.int .i64 9]) (by simp[results,go_sem, *]) rfl ?_;exact HZ.out VE a0 HB
    subst i3
    by_cases i4:x=6
    case neg=>
     have e1:((x:Int)==6)=false:=by simp;omega
     have HB:=H_ (Q.out (if_neg (fun h=>i4 h.2)));clear O Q i4 a1 a2 d7 C d3;go_wp2;refine bodyPost_ret (v:=.tuple #[.agg #[.int .i64 0,.slice none 0 0,.int .u64 0,.int .u64 0,.int .u64 0,.int .u64 0],.int .i64 0,.int .i64 0,.int .i64 9]) (by simp[results,go_sem, *]) rfl ?_;exact HZ.out VE a0 HB
    subst i4;simp only[and_self,if_true]at Q O;have hm:=gv2 (g8 rfl);have n4:=a1.ilen;have n5:=a2.flen;have s3:md<=40:=o_
    have s4:na<=40:=o_
    clear hm n4 n5 g8;have b8:=ev3 v A1 m1 c1 J Dd md dd Aa na ca VE o_ o_ o_ d3.row a1 a2;unfold Ed.val Vw.val at b8
    cases d8:v.app J with
    |none=>
     rw[d8]at b8;have HB:=H_ (Q.out d8);have i5:=H_ b8;clear b8 d8 Q O d3 a2 a1 d7;go_wp2_with fail;refine i5.mono ?_;rintro e w3 ⟨a5,hx⟩;simp only[Vw.none_,Vw.val]at hx;subst hx;have n6:=(az a0 a5).alloc (az a0 a5).size (.cells #[.int .i64 0,.slice none 0 0,.int .u64 0,.int .u64 0,.int .u64 0,.int .u64 0] 106);have o:=(C.below a5).alloc (.cells #[.int .i64 0,.slice none 0 0,.int .u64 0,.int .u64 0,.int .u64 0,.int .u64 0] 106);go_upto_region 11 with (fail)
     generalize w3.alloc (.cells #[.int .i64 0,.slice none 0 0,.int .u64 0,.int .u64 0,.int .u64 0,.int .u64 0] 106)=V3 at *;clear a0 C a5 o0 o1 o2 o3 o4 o5 z0 z1 z2 z3 z4 z5 b0 b1 b2 b3 b4 b5 b6;have o0:=o.cell 0;have z0:=o.free 0;have o1:=o.cell 1;have z1:=o.free 1;have o2:=o.cell 2;have z2:=o.free 2;have o3:=o.cell 3;have z3:=o.free 3;have o4:=o.cell 4;have z4:=o.free 4;have o5:=o.cell 5;have z5:=o.free 5;simp only[Vw.cells,gE0,gE1]at o0 o1 o2 o3 o4 o5;clear o;go_wp2;refine bodyPost_ret (v:=.tuple #[.agg #[.int .i64 0,.slice none 0 0,.int .u64 0,.int .u64 0,.int .u64 0,.int .u64 0],.int .i64 0,.int .i64 0,.int .i64 9]) (by simp[results,go_sem, *]) rfl ?_;exact HZ.out V3 n6 HB
    |some u=>
     have p6:=Vw.mw4 d8;rw[d8]at b8 O;have i5:=H_ b8;clear b8 d8 Q a2 a1;go_wp2_with fail;refine i5.mono ?_;rintro e w3 ⟨a5,A3,n3,c3,rfl,e5⟩;unfold Vw.val;have o:=(C.below a5).alloc (.cells #[u.log,.slice A3 n3 c3,[u.floor],[u.cert],[u.at_],[u.lease]] 106);have l2:=(d7.trans (Chg.of_below a5 []) (fun g hg=>by cases hg)).alloc (.cells #[u.log,.slice A3 n3 c3,[u.floor],[u.cert],[u.at_],[u.lease]] 106);have U:=BoxO.new w3 #[u.log,.slice A3 n3 c3,[u.floor],[u.cert],[u.at_],[u.lease]] 106;simp only at U;have g':=(e5.base a0.size).below (b_ w3 (.cells #[u.log,.slice A3 n3 c3,[u.floor],[u.cert],[u.at_],[u.lease]] 106));have b9:=fun a ha=>e5.low a ha;have p7:=C.lt;have p8:=a5.size;go_upto_region 11 with (fail)
     generalize w3.alloc (.cells #[u.log,.slice A3 n3 c3,[u.floor],[u.cert],[u.at_],[u.lease]] 106)=V3 at *;generalize (w3:Nat)=gu at *;clear a0 C a5 d7 e5 o0 o1 o2 o3 o4 o5 z0 z1 z2 z3 z4 z5 b0 b1 b2 b3 b4 b5 b6;have o0:=o.cell 0;have z0:=o.free 0;have o1:=o.cell 1;have z1:=o.free 1;have o2:=o.cell 2;have z2:=o.free 2;have o3:=o.cell 3;have z3:=o.free 3;have o4:=o.cell 4;have z4:=o.free 4;have o5:=o.cell 5;have z5:=o.free 5;simp only[Vw.cells,gE0,gE1]at o0 o1 o2 o3 o4 o5;have u0:=U.c0;have u1:=U.c1;have u2:=U.c2;have u3:=U.c3;have u4:=U.c4;have u5:=U.c5;have l3:=((((((o.store 0 (.int .i64 u.log)).store 1 (.slice A3 n3 c3)).store 2 (.int .u64 u.floor)).store 3 (.int .u64 u.cert)).store 4 (.int .u64 u.at_)).store 5 (.int .u64 u.lease));have b':=((((((Chg.refl [(w:Nat)] V3).setCell (p:=⟨w,0,none⟩) u.log (.inl s_)).setCell (p:=⟨w,1,none⟩) (.slice A3 n3 c3) (.inl s_)).setCell (p:=⟨w,2,none⟩) (.int .u64 u.floor) (.inl s_)).setCell (p:=⟨w,3,none⟩) (.int .u64 u.cert) (.inl s_)).setCell (p:=⟨w,4,none⟩) (.int .u64 u.at_) (.inl s_)).setCell (p:=⟨w,5,none⟩) (.int .u64 u.lease) (.inl s_);have a9:=(g'.chg b' (fun a ha hm=>by have:=b9 a ha;simp at hm;omega));have h0:ix1 ((w:Nat)+1) _ A3 n3 c3 u.files:=⟨a9.row,a9.nc,a9.cm,fun a ha=>by have:=b9 a ha;omega⟩;have l4:=l2.trans b' s_;have n8:n3<=40:=by
      have:=a9.row.flen;omega
     have n9:=H_ l3;have n':=H_ h0;have o6:=H_ l4;clear l3 a9 h0 l4 b' g' b9 l2 o U;go_wp2;go_roundw
     case rel=>exact⟨k+1,u,A3,n3,c3,o_,rfl,by go_num,n8,n9,n',O,o6⟩
     case measure=>simp[intOf];omega
   ·obtain rfl:n=k:=o_
    have h6:Vw.steps Z=some v:=by
     have h:=f2.out
     rwa [i_ o_]at h
    have l5:R=some (v,n,stop):=by
     rw[j9.out,h6];rfl
    have l6:Below w w wr:=hb.trans (a6.below hb.size s_);have o7:=H_ l5;have o0:=E.cell 0;have z0:=E.free 0;have o1:=E.cell 1;have z1:=E.free 1;have o2:=E.cell 2;have z2:=E.free 2;have o3:=E.cell 3;have z3:=E.free 3;have o4:=E.cell 4;have z4:=E.free 4;have o5:=E.cell 5;have z5:=E.free 5;simp only[Vw.cells,gE0,gE1]at o0 o1 o2 o3 o4 o5;have b':=((((((Chg.refl [(w:Nat)] wr).setCell (p:=⟨w,0,none⟩) v.log (.inl s_)).setCell (p:=⟨w,1,none⟩) (.slice A1 m1 c1) (.inl s_)).setCell (p:=⟨w,2,none⟩) (.int .u64 v.floor) (.inl s_)).setCell (p:=⟨w,3,none⟩) (.int .u64 v.cert) (.inl s_)).setCell (p:=⟨w,4,none⟩) (.int .u64 v.at_) (.inl s_)).setCell (p:=⟨w,5,none⟩) (.int .u64 v.lease) (.inl s_);have a9:=(e3.chg b' (fun a ha hm=>by have:=e3.low a ha;simp at hm;omega)).base (B':=(w:Nat)) o_;have e6:nv4 w R (.returned (.tuple #[.agg #[v.log,.slice A1 m1 c1,[v.floor],[v.cert],[v.at_],[v.lease]],.int .i64 (n:Int),(stop:Int),.int .i64 0])) ((((((wr.setCell w v.log).setCell (w,1) (.slice A1 m1 c1)).setCell (w,2) (.int .u64 v.floor)).setCell (w,3) (.int .u64 v.cert)).setCell (w,4) (.int .u64 v.at_)).setCell (w,5) (.int .u64 v.lease)):=by
     rw[o7.out];refine⟨l6.trans (b'.below l6.size s_),?_⟩;exact⟨A1,m1,c1,rfl,m9,a9⟩
    have HP:=H_ e6;clear e6 b' a9 e3 h6 l5 E a6 b7 f2;go_wp2;refine bodyPost_ret (v:=.tuple #[.agg #[v.log,.slice A1 m1 c1,[v.floor],[v.cert],[v.at_],[v.lease]],.int .i64 (n:Int),(stop:Int),.int .i64 0]) (by simp[results,go_sem, *]) rfl ?_;exact HP
end Go.Proofs.YtfbkjjdfboagfaaGreatDoor
