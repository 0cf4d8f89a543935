/- Texts Apply, EditJ, EditK in one. No conditions. -/
import Derived.Test.YthjdpplgfdihoaaGreatDoorBunAJ
import Derived.Test.YthjdpplgfdihoaaGreatDoorBunAK

set_option linter.unusedSimpArgs false
set_option linter.unusedVariables false
set_option maxRecDepth 100000
set_option maxHeartbeats 16000000
namespace Go.Proofs.YthjdpplgfdihoaaGreatDoor
section
open Go Go.RowKit
structure gj1 (B:Nat) (w:World) (A:Option Addr) (n c:Nat) (fs:List (Int×Int)):Prop where
 row:Row w.heap.size w A n 2 (ax fs)
 nc:n≤c
 cm:c≤maxLen
 low:∀a,A=some a→B≤a.block
def ex3 (w:World) (o:Option Vw) (x:Ending) (w':World):Prop:=
 Below w.heap.size w w'∧match o with
 |none=>x=.returned (.tuple #[Vw.none_.val none 0 0,.bool false])
 |some u=>∃A N c,x=.returned (.tuple #[u.val A N c,.bool true])∧gj1 w.heap.size w' A N c u.files
def drop1 (n:Int) (fs:List (Int×Int)):Option (List (Int×Int)):=if fs.any (fun f=>f.2==n) then some (fs.eraseP fun f=>f.2==n) else none
theorem nj1:∀(a b:List Int) (fs:List (Int×Int)),dropAll (a++b) fs=(dropAll a fs).bind (dropAll b)
 |[],b,fs=>rfl
 |n::r,b,fs=>by
  simp only[N_,dropAll];split
  ·exact nj1 r b _
  ·rfl
theorem rv2 {ds:List Int} {k:Nat} (h:k < ds.length) (fs:List (Int×Int)):dropAll (ds.take (k+1)) fs=(dropAll (ds.take k) fs).bind (drop1 ds[k]):=by
 rw[o_ h,nj1]
 congr 1
theorem qz2 {ds:List Int} {k:Nat} {fs:List (Int×Int)} (h:dropAll (ds.take k) fs=none):dropAll ds fs=none:=by
 rw[←aa_ k ds,nj1,h];rfl
theorem fx4 {P:Int×Int→Bool} {fs:List (Int×Int)} {i:Nat} (hi:i < fs.length) (h:fs.findIdx P=i):fs.eraseP P=fs.eraseIdx i:=by
 rw[List.eraseP_eq_eraseIdx];have:fs.findIdx? P=some i:=by
  rw[List.findIdx?_eq_some_iff_findIdx_eq];exact⟨hi,h⟩
 rw[this]
theorem ok4 {v:Vw} {e:Ed} (h:dropAll e.drop v.files=none):v.app e=none:=by unfold Vw.app;rw[h]
def Vw.mix (v:Vw) (e:Ed) (fs:List (Int×Int)):Vw:=⟨if e.log=0 then v.log else e.log,fs++e.add,orElse e.floor v.floor,orElse e.cert v.cert,orElse e.at_ v.at_,orElse e.lease v.lease⟩
theorem kj4 {v:Vw} {e:Ed} {fs:List (Int×Int)} (h:dropAll e.drop v.files=some fs):v.app e=if (v.mix e fs).ok=true then some (v.mix e fs) else none:=by unfold Vw.app;rw[h];rfl
theorem xj1 {base B:Nat} {w:World} {A:Option Addr} {n c:Nat} {fs:List (Int×Int)} (h:w.ownsRow base 170 2 (.slice A n c) n (ax fs)) (hB:B≤base):gj1 B w A n c fs:=by
 obtain⟨_,_,hsl,hnc,hcm,hbs⟩:=dw h;injection hsl with h1 h2 h3;subst h1 h3;exact⟨Row.own h,hnc,hcm,fun a ha=>h_ hB (hbs a ha).1⟩
theorem gj1.below {B n c:Nat} {w w':World} {A:Option Addr} {fs:List (Int×Int)} (h:gj1 B w A n c fs) (hb:Below w.heap.size w w'):gj1 B w' A n c fs:=⟨(h.row.below hb).up hb.size,h.nc,h.cm,h.low⟩
theorem gj1.chg {B n c:Nat} {w w':World} {A:Option Addr} {fs:List (Int×Int)} {G:List Nat} (h:gj1 B w A n c fs) (k:Chg G w w') (hg:∀a,A=some a→a.block∉G):gj1 B w' A n c fs:=⟨(k.row h.row l_ hg).up k.size,h.nc,h.cm,h.low⟩
theorem qk4 (A:Option Addr) (n c:Nat) (w:World) (hn:n≤c) (_hc:c≤maxLen):Calls Tryz.prog 295 #[.slice A n c] w fun e w'=>e=.returned (.slice A n n)∧w=w':=by
 go_enter Tryz.func295,Tryz.ntmps295;go_wp2;go_ret;exact⟨rfl,rfl⟩
theorem gv4 (v:Vw) (A0:Option Addr) (n0 c0:Nat) (e:Ed) (D:Option Addr) (m d:Nat) (A2:Option Addr) (n2 c2:Nat) (w:World) (hn0:n0≤100000) (hm:m≤100000) (hn2:n2≤100000)
  (hrv:Row w.heap.size w A0 n0 2 (ax v.files)) (hrd:Row w.heap.size w D m 1 (vk e.drop)) (hra:Row w.heap.size w A2 n2 2 (ax e.add)):
  Calls Tryz.prog 231 #[v.val A0 n0 c0,e.val D m d A2 n2 c2] w (ex3 w (v.app e)):=by
 obtain⟨i0,hi0,hz0,hz1,hz2⟩:=info_parts jw1;have hap1:=fun h=>ok4 (v:=v) (e:=e) h;have hap2:=fun fs h=>kj4 (v:=v) (e:=e) (fs:=fs) h;generalize hAP:v.app e=AP at *;have HAP1:=H_ hap1;have HAP2:=H_ hap2;clear hap1 hap2 hAP;have hdt:=fun(k:Nat) (h:k < e.drop.length)=>rv2 h v.files;have hds:=fun(k:Nat) h=>qz2 (ds:=e.drop) (k:=k) (fs:=v.files) h;have hdl:=hrd.ilen;have hvl:=hrv.flen;have hal:=hra.flen;have HDT:=H_ hdt;have HDS:=H_ hds;clear hdt hds;unfold Vw.mix at HAP2;unfold Vw.val Ed.val;obtain⟨g,fs0,f,c,a,l⟩:=v;obtain⟨ds,ad,G,F,C,AA,L⟩:=e;simp only at hrv hrd hra HAP1 HAP2 hdl hvl hal HDT HDS ⊢;go_enter Tryz.func231,Tryz.ntmps231;go_wp2_with (at_builtin;refine iy ?_);have hbw:Below w.heap.size w ((((w.alloc (.cells #[.int .i64 g,.slice A0 n0 c0,.int .u64 (f:Int),.int .u64 (c:Int),.int .u64 (a:Int),.int .u64 (l:Int)] 86)).alloc (.cells #[.slice D m d,.slice A2 n2 c2,.int .i64 G,.int .u64 (F:Int),.int .u64 (C:Int),.int .u64 (AA:Int),.int .u64 (L:Int)] 194)).alloc (.cells #[.int .i64 0,.slice none 0 0,.int .u64 0,.int .u64 0,.int .u64 0,.int .u64 0] 86)).alloc (.cells #[.int .i64 g,.slice A0 n0 c0,.int .u64 (f:Int),.int .u64 (c:Int),.int .u64 (a:Int),.int .u64 (l:Int)] 86)):=(((b_ _ _).alloc (by simp) _).alloc (by simp;omega) _).alloc (by simp;omega) _;have hE:=(((BoxO.new (w.alloc (.cells #[.int .i64 g,.slice A0 n0 c0,.int .u64 (f:Int),.int .u64 (c:Int),.int .u64 (a:Int),.int .u64 (l:Int)] 86)) #[.slice D m d,.slice A2 n2 c2,.int .i64 G,.int .u64 (F:Int),.int .u64 (C:Int),.int .u64 (AA:Int),.int .u64 (L:Int)] 194).alloc (.cells #[.int .i64 0,.slice none 0 0,.int .u64 0,.int .u64 0,.int .u64 0,.int .u64 0] 86)).alloc (.cells #[.int .i64 g,.slice A0 n0 c0,.int .u64 (f:Int),.int .u64 (c:Int),.int .u64 (a:Int),.int .u64 (l:Int)] 86));have hR:=((BoxO.new ((w.alloc (.cells #[.int .i64 g,.slice A0 n0 c0,.int .u64 (f:Int),.int .u64 (c:Int),.int .u64 (a:Int),.int .u64 (l:Int)] 86)).alloc (.cells #[.slice D m d,.slice A2 n2 c2,.int .i64 G,.int .u64 (F:Int),.int .u64 (C:Int),.int .u64 (AA:Int),.int .u64 (L:Int)] 194)) #[.int .i64 0,.slice none 0 0,.int .u64 0,.int .u64 0,.int .u64 0,.int .u64 0] 86).alloc (.cells #[.int .i64 g,.slice A0 n0 c0,.int .u64 (f:Int),.int .u64 (c:Int),.int .u64 (a:Int),.int .u64 (l:Int)] 86));have hO:=BoxO.new (((w.alloc (.cells #[.int .i64 g,.slice A0 n0 c0,.int .u64 (f:Int),.int .u64 (c:Int),.int .u64 (a:Int),.int .u64 (l:Int)] 86)).alloc (.cells #[.slice D m d,.slice A2 n2 c2,.int .i64 G,.int .u64 (F:Int),.int .u64 (C:Int),.int .u64 (AA:Int),.int .u64 (L:Int)] 194)).alloc (.cells #[.int .i64 0,.slice none 0 0,.int .u64 0,.int .u64 0,.int .u64 0,.int .u64 0] 86)) #[.int .i64 g,.slice A0 n0 c0,.int .u64 (f:Int),.int .u64 (c:Int),.int .u64 (a:Int),.int .u64 (l:Int)] 86;simp only[A_]at hE hR hO;have hsz:((((w.alloc (.cells #[.int .i64 g,.slice A0 n0 c0,.int .u64 (f:Int),.int .u64 (c:Int),.int .u64 (a:Int),.int .u64 (l:Int)] 86)).alloc (.cells #[.slice D m d,.slice A2 n2 c2,.int .i64 G,.int .u64 (F:Int),.int .u64 (C:Int),.int .u64 (AA:Int),.int .u64 (L:Int)] 194)).alloc (.cells #[.int .i64 0,.slice none 0 0,.int .u64 0,.int .u64 0,.int .u64 0,.int .u64 0] 86)).alloc (.cells #[.int .i64 g,.slice A0 n0 c0,.int .u64 (f:Int),.int .u64 (c:Int),.int .u64 (a:Int),.int .u64 (l:Int)] 86)).heap.size=w.heap.size+1+1+1+1:=by simp
 refine gz (ry rfl _ (.tmp 14) _ rfl (w.heap.size+1+1+1+1) 170 i0 _ 2 16 Tryz.underlying84 hi0 hz0 hz1 hz2 rfl (by omega) ((((w.alloc (.cells #[.int .i64 g,.slice A0 n0 c0,.int .u64 (f:Int),.int .u64 (c:Int),.int .u64 (a:Int),.int .u64 (l:Int)] 86)).alloc (.cells #[.slice D m d,.slice A2 n2 c2,.int .i64 G,.int .u64 (F:Int),.int .u64 (C:Int),.int .u64 (AA:Int),.int .u64 (L:Int)] 194)).alloc (.cells #[.int .i64 0,.slice none 0 0,.int .u64 0,.int .u64 0,.int .u64 0,.int .u64 0] 86)).alloc (.cells #[.int .i64 g,.slice A0 n0 c0,.int .u64 (f:Int),.int .u64 (c:Int),.int .u64 (a:Int),.int .u64 (l:Int)] 86)) b0_ (by rw[hsz];exact x_ _) rfl w.heap.size A0 n0 c0 (ax fs0) rfl (hrv.below hbw) (dq1 _) (by unfold maxLen;omega) (by omega) ?_);intro A1 k1 w1 ho1 hb1 hg1 hk1 hm1;have hbl1:Below w.heap.size w w1:=hbw.trans (hb1.mono (by omega));have hE1:BoxO w1 _ _ _:=(hb1.block (w.heap.size+1) (by omega)).trans hE;have hR1:BoxO w1 _ _ _:=(hb1.block (w.heap.size+1+1) (by omega)).trans hR;have hO1:BoxO w1 _ _ _:=(hb1.block (w.heap.size+1+1+1) (by omega)).trans hO;clear hbw hE hR hO hsz hb1 hg1;have q0:=hO1.c1;have z0:=hO1.free 1;have p0:=hE1.c0;have hlt1:=hO1.lt;have hO2:=hO1.store 1 (.slice A1 n0 k1);have hch:=uw w1 ⟨w.heap.size+1+1+1,1,none⟩ (.slice A1 n0 k1);have hE2:=hE1.chg hch (by simp);have hR2:=hR1.chg hch (by simp);have hbl2:=hbl1.setCell (p:=⟨w.heap.size+1+1+1,1,none⟩) (by simp;omega) (.slice A1 n0 k1);have ho2:=jv ho1 hch (fun g hg h=>by
  have:=(ho1.lt g hg).1;simp at h;omega)
 simp only[ac_,ak_]at hO2;clear hO1 hE1 hR1 hbl1 ho1 hch;go_wp2_with fail;clear q0 z0 p0;generalize w1.setCell ⟨w.heap.size+1+1+1,1,none⟩ (.slice A1 n0 k1)=W at *
 go_loopw [20] (fun i wr=>∃(k N cp:Nat) (A':Option Addr) (fs:List (Int×Int)),k≤m∧i=.int .i64 (k:Int)∧Hid (dropAll (ds.take k) fs0=some fs)∧N≤n0∧BoxO wr 86 (w.heap.size+1+1+1) [.int .i64 g,.slice A' N cp,.int .u64 (f:Int),.int .u64 (c:Int),.int .u64 (a:Int),.int .u64 (l:Int)]∧wr.ownsRow (w.heap.size+1+1+1+1) 170 2 (.slice A' N cp) N (ax fs)∧BoxO wr 194 (w.heap.size+1) [.slice D m d,.slice A2 n2 c2,.int .i64 G,.int .u64 (F:Int),.int .u64 (C:Int),.int .u64 (AA:Int),.int .u64 (L:Int)]∧BoxO wr 86 (w.heap.size+1+1) [.int .i64 0,.slice none 0 0,.int .u64 0,.int .u64 0,.int .u64 0,.int .u64 0]∧Below w.heap.size w wr) (fun i _=>m - (intOf i).toNat)
 case atStart=>exact⟨0,n0,k1,A1,fs0,t_ _,rfl,H_ rfl,x_ _,hO2,ho2,hE2,hR2,hbl2⟩
 case round=>
  obtain⟨k,N,cp,A',fs,hk,rfl,hdr,hN,hO,ho,hE,hR,hbl⟩:=hrel;clear hO2 hE2 hR2 hbl2 ho2;obtain⟨_,_,hsl,hNc,hcm,hbs⟩:=dw ho;injection hsl with hsl1 hsl2 hsl3;subst hsl1 hsl3;clear hsl2;have q1:=hO.c1;have z1:=hO.free 1;have hltO:=hO.lt
  by_cases hlt:k < m
  ·obtain⟨da,hl,rfl,hdb,hdc⟩:=(hrd.below hbl).int_ hlt
   have hd1:=HDT.out k hl;rw[hdr.out]at hd1;have hsp:=HDS.out (k+1);generalize ds[k]=x at *;have HD1:Hid (dropAll (ds.take (k+1)) fs0=drop1 x fs):=H_ hd1;have HSP:=H_ hsp;clear hd1 hsp hdr hl;have hfl:=(Row.own ho).flen;have hrA:=(Row.own ho).alloc l_ (.cells #[.int .i64 x] 3);have hXc:(wr.alloc (.cells #[.int .i64 x] 3)).cell? ⟨wr.heap.size,0,none⟩=some (.int .i64 x):=(BoxO.new wr #[.int .i64 x] 3).cell 0;have hbA:=b_ wr (.cells #[.int .i64 x] 3);have hfx:=iy3 293 (fun _ _=>rfl) ⟨wr.heap.size,0,none⟩ (fun f=>f.2==x) A' N cp fs (wr.alloc (.cells #[.int .i64 x] 3)) (by omega) (hrA.up (by simp)) (fun f w2 hb2=>zy4 f ⟨wr.heap.size,0,none⟩ x w2 ((hb2.cell (p:=⟨wr.heap.size,0,none⟩) (by simp)).trans hXc));have hO':=hO.alloc (.cells #[.int .i64 x] 3);have hE':=hE.alloc (.cells #[.int .i64 x] 3);have hR':=hR.alloc (.cells #[.int .i64 x] 3);have ho':=ho.alloc (.cells #[.int .i64 x] 3);have hbl':=az hbl hbA;clear hrA hXc hbA hO hE hR ho hbl
   cases hany:fs.any (fun f=>f.2==x) with
   |false=>
    rw[zq hany]at hfx;have hno:AP=none:=HAP1.out (HSP.out (by rw[HD1.out,drop1,hany];rfl));have HNO:=H_ hno;clear hno hany;go_wp2_with fail;refine hfx.mono ?_;rintro e w2 ⟨rfl,hb2⟩;have hRz:=hR'.below hb2;have hbz:=az hbl' hb2;have r0:=hRz.c0;have r1:=hRz.c1;have r2:=hRz.c2;have r3:=hRz.c3;have r4:=hRz.c4;have r5:=hRz.c5;have y0:=hRz.free 0;have y1:=hRz.free 1;have y2:=hRz.free 2;have y3:=hRz.free 3;have y4:=hRz.free 4;have y5:=hRz.free 5;clear hfx hb2 hO' hE' hR' ho' hbl' q1 z1 hRz;go_wp2_with fail;refine bodyPost_ret (v:=.tuple #[.agg #[.int .i64 0,.slice none 0 0,.int .u64 0,.int .u64 0,.int .u64 0,.int .u64 0],.bool false]) (by simp[results,go_sem, *]) rfl ?_;unfold ex3;rw[HNO.out];exact⟨(((((hbz.setCell (by simp;omega) _).setCell (by simp;omega) _).setCell (by simp;omega) _).setCell (by simp;omega) _).setCell (by simp;omega) _).setCell (by simp;omega) _,rfl⟩
   |true=>
    obtain⟨i,hfi,hil,hpi,hix⟩:=dv3 hany;rw[hfi]at hfx;have hiN:i < N:=by omega
    have her:=fx4 hil hix;have hd2:dropAll (ds.take (k+1)) fs0=some (fs.eraseIdx i):=by rw[HD1.out,drop1,hany,if_pos rfl,her]
    have HD2:=H_ hd2;clear hfi hpi hix her hd2 hany HD1 HSP;go_wp2_with fail;refine hfx.mono ?_;rintro e w2 ⟨rfl,hb2⟩;have hO3:=hO'.below hb2;have hE3:=hE'.below hb2;have hR3:=hR'.below hb2;have ho3:=own_below ho' hb2;have hbl3:=az hbl' hb2;clear hfx hb2 hO' hE' hR' ho' hbl' q1 z1
    rcases ho3.2 with ⟨hv,h0⟩|⟨gg,cap,cur,hv,hgb,hgh,_⟩
    ·omega
    injection hv with hv1 hv2 hv3;subst hv1 hv3;clear hv2;have hggl:gg < w2.heap.size:=(w_.1 hgh).1;have q1:=hO3.c1;have hdel:=jq4 (w.heap.size+1+1+1+1) gg N cp i fs w2 ho3 hiN;clear hgh ho3;go_wp2_with fail;refine hdel.mono ?_;rintro e w3 ⟨rfl,ho4,hc4⟩;have hO4:=hO3.chg hc4 (by simp;omega);have hE4:=hE3.chg hc4 (by simp;omega);have hR4:=hR3.chg hc4 (by simp;omega);have hbl4:=hbl3.trans (hc4.below hbl3.size (by intro q hq;simp at hq;omega));clear hdel hO3 hE3 hR3 hbl3 hc4 q1;have q1:=hO4.c1;have z1:=hO4.free 1;have hch:=uw w3 ⟨w.heap.size+1+1+1,1,none⟩ (.slice (some ⟨gg,0,none⟩) (N - 1) cp);have hO5:=hO4.store 1 (.slice (some ⟨gg,0,none⟩) (N - 1) cp);simp only[ac_,ak_]at hO5;have hE5:=hE4.chg hch (by simp);have hR5:=hR4.chg hch (by simp);have ho5:=jv ho4 hch (fun q hq h=>by
     have:=(ho4.lt q hq).1;simp at h;omega)
    have hbl5:=hbl4.setCell (p:=⟨w.heap.size+1+1+1,1,none⟩) (by simp;omega) (.slice (some ⟨gg,0,none⟩) (N - 1) cp);clear hO4 hE4 hR4 ho4 hbl4 hch;go_wp2_with fail;go_roundw
    case rel=>exact⟨k+1,N - 1,cp,some ⟨gg,0,none⟩,fs.eraseIdx i,by omega,by go_num,HD2,by omega,hO5,ho5,hE5,hR5,hbl5⟩
    case measure=>simp[intOf];omega
  ·obtain rfl:m=k:=by omega
   have hdall:dropAll ds fs0=some fs:=by have h:=hdr.out;rwa [i_ (by omega)]at h
   have hap:=HAP2.out fs hdall;have HAP:=H_ hap;clear hdall hap hdr HAP1 HAP2 HDT HDS;have p1:=hE.c1;go_wp2_with (at_builtin;refine iy ?_);refine gz (jq rfl (.tmp 40) (.tmp 42) _ rfl (w.heap.size+1+1+1+1) 170 i0 _ 2 16 Tryz.underlying84 hi0 hz0 hz1 hz2 rfl (by omega) wr b0_ (by omega) _ N (ax fs) rfl ho w.heap.size A2 n2 c2 (ax ad) rfl (hra.below hbl) (dq1 _) (N+n2) (ax (fs++ad)) rfl (rv1 _ _).symm (by unfold maxLen;omega) (by omega) ?_);intro A3 c3 w3 ho3 hb3 hg3 hc3 hm3;have hbl3:=hbl.trans (hb3.mono (by omega));have hE3:BoxO w3 _ _ _:=(hb3.block _ (by omega)).trans hE;have hR3:BoxO w3 _ _ _:=(hb3.block _ (by omega)).trans hR;have hO3:BoxO w3 _ _ _:=(hb3.block _ (by omega)).trans hO;have hF3:=xj1 ho3 l_;clear ho hE hR hO hb3 hg3 q1 z1 p1 ho3;go_wp2_with fail;refine(qk4 A3 (N+n2) c3 w3 hc3 hm3).mono ?_;rintro e w4 ⟨rfl,rfl⟩;have q1:=hO3.c1;have z1:=hO3.free 1;have hch:=uw w3 ⟨w.heap.size+1+1+1,1,none⟩ (.slice A3 (N+n2) (N+n2));have hO5:=hO3.store 1 (.slice A3 (N+n2) (N+n2));simp only[ac_,ak_]at hO5;have hE5:=hE3.chg hch (by simp);have hR5:=hR3.chg hch (by simp);have hF5:=hF3.chg hch (fun q hq h=>by
    have:=hF3.low q hq;simp at h;omega)
   have hbl5:=hbl3.setCell (p:=⟨w.heap.size+1+1+1,1,none⟩) (by simp;omega) (.slice A3 (N+n2) (N+n2));clear hO3 hE3 hR3 hbl3 hch hF3;have p2:=hE5.c2;obtain⟨g',hg'⟩:=n_ ((if G=0 then g else G));have HG:=H_ hg';clear hg';go_upto_if 48 with (fail)
   generalize w3.setCell ⟨w.heap.size+1+1+1,1,none⟩ (.slice A3 (N+n2) (N+n2))=W5 at *;clear q1 z1 hNc hcm hbs
   go_cut [] (fun wx=>BoxO wx 86 (w.heap.size+1+1+1) [.int .i64 g',.slice A3 (N+n2) (N+n2),.int .u64 (f:Int),.int .u64 (c:Int),.int .u64 (a:Int),.int .u64 (l:Int)]∧BoxO wx 194 (w.heap.size+1) [.slice D m d,.slice A2 n2 c2,.int .i64 G,.int .u64 (F:Int),.int .u64 (C:Int),.int .u64 (AA:Int),.int .u64 (L:Int)]∧BoxO wx 86 (w.heap.size+1+1) [.int .i64 0,.slice none 0 0,.int .u64 0,.int .u64 0,.int .u64 0,.int .u64 0]∧gj1 (w.heap.size+1+1+1+1) wx A3 (N+n2) c3 (fs++ad)∧Below w.heap.size w wx)
   case first=>
    by_cases hG:G=0
    ·have e0:(G !=0)=false:=by simp[hG]
     have e1:g'=g:=by rw[HG.out,if_pos hG]
     subst e1;subst hG;clear HG e0;go_wp2_with fail
     go_meet
     exact⟨hO5,hE5,hR5,hF5,hbl5⟩
    ·have e0:(G !=0)=true:=by simpa using hG
     have e1:g'=G:=by rw[HG.out,if_neg hG]
     subst e1;have q0:=hO5.c0;have z0:=hO5.free 0;have hch:=uw W5 ⟨w.heap.size+1+1+1,0,none⟩ (.int .i64 g');have hO6:=hO5.store 0 (.int .i64 g');simp only[ak_]at hO6;have hE6:=hE5.chg hch (by simp);have hR6:=hR5.chg hch (by simp);have hF6:=hF5.chg hch (fun q hq h=>by
      have:=hF5.low q hq;simp at h;omega)
     have hbl6:=hbl5.setCell (p:=⟨w.heap.size+1+1+1,0,none⟩) (by simp;omega) (.int .i64 g');clear HG hG hch hO5 hE5 hR5 hF5 hbl5;go_wp2_with fail
     go_meet
     exact⟨hO6,hE6,hR6,hF6,hbl6⟩
   case rest=>
    obtain⟨hO6,hE6,hR6,hF6,hbl6⟩:=hcut;clear hO5 hE5 hR5 hF5 hbl5 p2;have p3:=hE6.c3;have p4:=hE6.c4;have p5:=hE6.c5;have p6:=hE6.c6;have hlt6:=hO6.lt;have hQ:=BoxO.new wc #[.int .u64 (F:Int),.pointer (some ⟨w.heap.size+1+1+1,2,none⟩),.int .u64 (C:Int),.pointer (some ⟨w.heap.size+1+1+1,3,none⟩),.int .u64 (AA:Int),.pointer (some ⟨w.heap.size+1+1+1,4,none⟩),.int .u64 (L:Int),.pointer (some ⟨w.heap.size+1+1+1,5,none⟩)] 353;have hO7:=hO6.alloc (.cells #[.int .u64 (F:Int),.pointer (some ⟨w.heap.size+1+1+1,2,none⟩),.int .u64 (C:Int),.pointer (some ⟨w.heap.size+1+1+1,3,none⟩),.int .u64 (AA:Int),.pointer (some ⟨w.heap.size+1+1+1,4,none⟩),.int .u64 (L:Int),.pointer (some ⟨w.heap.size+1+1+1,5,none⟩)] 353);have hR7:=hR6.alloc (.cells #[.int .u64 (F:Int),.pointer (some ⟨w.heap.size+1+1+1,2,none⟩),.int .u64 (C:Int),.pointer (some ⟨w.heap.size+1+1+1,3,none⟩),.int .u64 (AA:Int),.pointer (some ⟨w.heap.size+1+1+1,4,none⟩),.int .u64 (L:Int),.pointer (some ⟨w.heap.size+1+1+1,5,none⟩)] 353);have hF7:=hF6.below (b_ wc (.cells #[.int .u64 (F:Int),.pointer (some ⟨w.heap.size+1+1+1,2,none⟩),.int .u64 (C:Int),.pointer (some ⟨w.heap.size+1+1+1,3,none⟩),.int .u64 (AA:Int),.pointer (some ⟨w.heap.size+1+1+1,4,none⟩),.int .u64 (L:Int),.pointer (some ⟨w.heap.size+1+1+1,5,none⟩)] 353));have hbl7:=hbl6.alloc hbl6.size (.cells #[.int .u64 (F:Int),.pointer (some ⟨w.heap.size+1+1+1,2,none⟩),.int .u64 (C:Int),.pointer (some ⟨w.heap.size+1+1+1,3,none⟩),.int .u64 (AA:Int),.pointer (some ⟨w.heap.size+1+1+1,4,none⟩),.int .u64 (L:Int),.pointer (some ⟨w.heap.size+1+1+1,5,none⟩)] 353);clear hO6 hR6 hF6 hbl6;go_wp2_with fail;clear p3 p4 p5 p6 hE6;obtain⟨qb,hqb⟩:=n_ wc.heap.size;have hqo:w.heap.size+1+1+1 < qb:=by omega
    simp only[←hqb]at hQ ⊢;change Code.wp _ _ _ _ (wc.alloc (.cells #[.int .u64 (F:Int),.pointer (some ⟨w.heap.size+1+1+1,2,none⟩),.int .u64 (C:Int),.pointer (some ⟨w.heap.size+1+1+1,3,none⟩),.int .u64 (AA:Int),.pointer (some ⟨w.heap.size+1+1+1,4,none⟩),.int .u64 (L:Int),.pointer (some ⟨w.heap.size+1+1+1,5,none⟩)] 353));generalize wc.alloc (.cells #[.int .u64 (F:Int),.pointer (some ⟨w.heap.size+1+1+1,2,none⟩),.int .u64 (C:Int),.pointer (some ⟨w.heap.size+1+1+1,3,none⟩),.int .u64 (AA:Int),.pointer (some ⟨w.heap.size+1+1+1,4,none⟩),.int .u64 (L:Int),.pointer (some ⟨w.heap.size+1+1+1,5,none⟩)] 353)=V at *;have HQB:=H_ hqb;clear hqb hlt6;obtain⟨f',hf'⟩:∃x,orElse F f=x:=⟨_,rfl⟩;obtain⟨c',hc'⟩:∃x,orElse C c=x:=⟨_,rfl⟩;obtain⟨a',ha'⟩:∃x,orElse AA a=x:=⟨_,rfl⟩;obtain⟨l',hl'⟩:∃x,orElse L l=x:=⟨_,rfl⟩;have hap:=HAP.out;rw[hf',hc',ha',hl',←HG.out]at hap;have HAP2:=H_ hap;have HF:=H_ hf';have HC:=H_ hc';have HA:=H_ ha';have HL:=H_ hl';clear hap HAP hf' hc' ha' hl' HG
    go_loopw [70] (fun i wr=>∃k x0 x1 x2 x3:Nat,k≤4∧i=.int .i64 (k:Int)∧BoxO wr 86 (w.heap.size+1+1+1) [.int .i64 g',.slice A3 (N+n2) (N+n2),.int .u64 (x0:Int),.int .u64 (x1:Int),.int .u64 (x2:Int),.int .u64 (x3:Int)]∧
     Hid (x0=(if 0 < k then f' else f)∧x1=(if 1 < k then c' else c)∧x2=(if 2 < k then a' else a)∧x3=(if 3 < k then l' else l))∧Chg [w.heap.size+1+1+1] V wr) (fun i _=>4 - (intOf i).toNat)
    case atStart=>exact⟨0,f,c,a,l,by omega,rfl,hO7,H_ ⟨rfl,rfl,rfl,rfl⟩,Chg.refl _ _⟩
    case round=>
     obtain⟨k,x0,x1,x2,x3,hk,rfl,hBo,hx,hchg⟩:=hrel;have hQr:=hQ.chg hchg (by simp;omega);have hRr:=hR7.chg hchg (by simp);have hlt:=hBo.lt;have o0:=hBo.c0;have z0:=hBo.free 0;have o1:=hBo.c1;have z1:=hBo.free 1;have o2:=hBo.c2;have z2:=hBo.free 2;have o3:=hBo.c3;have z3:=hBo.free 3;have o4:=hBo.c4;have z4:=hBo.free 4;have o5:=hBo.c5;have z5:=hBo.free 5;have p0:=hQr.c0;have p1:=hQr.c1;have p2:=hQr.c2;have p3:=hQr.c3;have p4:=hQr.c4;have p5:=hQr.c5;have p6:=hQr.c6;have p7:=hQr.c7
     rcases (by omega:k=0∨k=1∨k=2∨k=3∨k=4) with rfl|rfl|rfl|rfl|rfl
     ·have he:orElse F f=f':=HF.out
      have hx':x0=(if 0 < 0 then f' else f)∧x1=(if 1 < 0 then c' else c)∧x2=(if 2 < 0 then a' else a)∧x3=(if 3 < 0 then l' else l):=hx.out;have HX:=H_ hx'
      by_cases hE:F=0
      ·have e1:((F:Int)==0)=true:=by simp[hE]
       have e2:(!((F:Int)==0))=false:=by rw[e1];rfl
       have hv:f=f':=by rw[←he,hE];rfl
       have HV:=H_ hv;clear hv he hE hx' hx;go_wp2_with fail;go_roundw
       case rel=>
        refine⟨1,x0,x1,x2,x3,by omega,rfl,hBo.alloc _,H_ ?_,hchg.alloc _⟩;have hx':=HX.out;have hv:=HV.out;simp at hx' ⊢;simp[hx',hv]
       case measure=>simp[intOf]
      ·have e1:((F:Int)==0)=false:=by simp;omega
       have e2:(!((F:Int)==0))=true:=by rw[e1];rfl
       have hv:F=f':=by rw[←he,lw1 hE]
       have HV:=H_ hv;clear hv he hE hx' hx;go_wp2_with fail;go_roundw
       case rel=>
        refine⟨1,F,x1,x2,x3,by omega,rfl,(hBo.store 2 _).alloc _,H_ ?_,(hchg.setCell _ (.inl (by simp))).alloc _⟩;have hx':=HX.out;have hv:=HV.out;simp at hx' ⊢;simp[hx',hv]
       case measure=>simp[intOf]
     ·have he:orElse C c=c':=HC.out
      have hx':x0=(if 0 < 1 then f' else f)∧x1=(if 1 < 1 then c' else c)∧x2=(if 2 < 1 then a' else a)∧x3=(if 3 < 1 then l' else l):=hx.out;have HX:=H_ hx'
      by_cases hE:C=0
      ·have e1:((C:Int)==0)=true:=by simp[hE]
       have e2:(!((C:Int)==0))=false:=by rw[e1];rfl
       have hv:c=c':=by rw[←he,hE];rfl
       have HV:=H_ hv;clear hv he hE hx' hx;go_wp2_with fail;go_roundw
       case rel=>
        refine⟨2,x0,x1,x2,x3,by omega,rfl,hBo.alloc _,H_ ?_,hchg.alloc _⟩;have hx':=HX.out;have hv:=HV.out;simp at hx' ⊢;simp[hx',hv]
       case measure=>simp[intOf]
      ·have e1:((C:Int)==0)=false:=by simp;omega
       have e2:(!((C:Int)==0))=true:=by rw[e1];rfl
       have hv:C=c':=by rw[←he,lw1 hE]
       have HV:=H_ hv;clear hv he hE hx' hx;go_wp2_with fail;go_roundw
       case rel=>
        refine⟨2,x0,C,x2,x3,by omega,rfl,(hBo.store 3 _).alloc _,H_ ?_,(hchg.setCell _ (.inl (by simp))).alloc _⟩;have hx':=HX.out;have hv:=HV.out;simp at hx' ⊢;simp[hx',hv]
       case measure=>simp[intOf]
     ·have he:orElse AA a=a':=HA.out
      have hx':x0=(if 0 < 2 then f' else f)∧x1=(if 1 < 2 then c' else c)∧x2=(if 2 < 2 then a' else a)∧x3=(if 3 < 2 then l' else l):=hx.out;have HX:=H_ hx'
      by_cases hE:AA=0
      ·have e1:((AA:Int)==0)=true:=by simp[hE]
       have e2:(!((AA:Int)==0))=false:=by rw[e1];rfl
       have hv:a=a':=by rw[←he,hE];rfl
       have HV:=H_ hv;clear hv he hE hx' hx;go_wp2_with fail;go_roundw
       case rel=>
        refine⟨3,x0,x1,x2,x3,by omega,rfl,hBo.alloc _,H_ ?_,hchg.alloc _⟩;have hx':=HX.out;have hv:=HV.out;simp at hx' ⊢;simp[hx',hv]
       case measure=>simp[intOf]
      ·have e1:((AA:Int)==0)=false:=by simp;omega
       have e2:(!((AA:Int)==0))=true:=by rw[e1];rfl
       have hv:AA=a':=by rw[←he,lw1 hE]
       have HV:=H_ hv;clear hv he hE hx' hx;go_wp2_with fail;go_roundw
       case rel=>
        refine⟨3,x0,x1,AA,x3,by omega,rfl,(hBo.store 4 _).alloc _,H_ ?_,(hchg.setCell _ (.inl (by simp))).alloc _⟩;have hx':=HX.out;have hv:=HV.out;simp at hx' ⊢;simp[hx',hv]
       case measure=>simp[intOf]
     ·have he:orElse L l=l':=HL.out
      have hx':x0=(if 0 < 3 then f' else f)∧x1=(if 1 < 3 then c' else c)∧x2=(if 2 < 3 then a' else a)∧x3=(if 3 < 3 then l' else l):=hx.out;have HX:=H_ hx'
      by_cases hE:L=0
      ·have e1:((L:Int)==0)=true:=by simp[hE]
       have e2:(!((L:Int)==0))=false:=by rw[e1];rfl
       have hv:l=l':=by rw[←he,hE];rfl
       have HV:=H_ hv;clear hv he hE hx' hx;go_wp2_with fail;go_roundw
       case rel=>
        refine⟨4,x0,x1,x2,x3,by omega,rfl,hBo.alloc _,H_ ?_,hchg.alloc _⟩;have hx':=HX.out;have hv:=HV.out;simp at hx' ⊢;simp[hx',hv]
       case measure=>simp[intOf]
      ·have e1:((L:Int)==0)=false:=by simp;omega
       have e2:(!((L:Int)==0))=true:=by rw[e1];rfl
       have hv:L=l':=by rw[←he,lw1 hE]
       have HV:=H_ hv;clear hv he hE hx' hx;go_wp2_with fail;go_roundw
       case rel=>
        refine⟨4,x0,x1,x2,L,by omega,rfl,(hBo.store 5 _).alloc _,H_ ?_,(hchg.setCell _ (.inl (by simp))).alloc _⟩;have hx':=HX.out;have hv:=HV.out;simp at hx' ⊢;simp[hx',hv]
       case measure=>simp[intOf]
     ·have hx':x0=(if 0 < 4 then f' else f)∧x1=(if 1 < 4 then c' else c)∧x2=(if 2 < 4 then a' else a)∧x3=(if 3 < 4 then l' else l):=hx.out
      simp at hx';obtain⟨rfl,rfl,rfl,rfl⟩:=hx';have hbr:Below w.heap.size w wr:=hbl7.trans (hchg.below hbl7.size (by intro q hq;simp at hq;omega));have hFr:=hF7.chg hchg (fun q hq h=>by
       have:=hF7.low q hq;simp at h;omega)
      have hok:=vz4 ⟨g',fs++ad,x0,x1,x2,x3⟩ A3 (N+n2) (N+n2) wr (by omega) l_ (h_ hFr.nc hFr.cm) hFr.row;unfold Vw.val at hok;simp only at hok;have hap:=HAP2.out;generalize hux:(⟨g',fs++ad,x0,x1,x2,x3⟩:Vw)=u at *;obtain⟨ob,hob⟩:=n_ u.ok;rw[←hob]at hok;have HOB:=H_ hob;have HUX:=H_ hux;have HAP3:=H_ hap;clear hx hux hob hap HAP2;clear p0 p1 p2 p3 p4 p5 p6 p7 z0 z1 z2 z3 z4 z5 hQr hQ hO7 hR7 hF7 hbl7 hchg;go_wp2_with fail;refine hok.mono ?_;rintro e w2 ⟨rfl,hb2⟩;have hB2:=hBo.below hb2;have hR2:=hRr.below hb2;have hF2:=hFr.below hb2;have hb3:=az hbr hb2;clear hok o0 o1 o2 o3 o4 o5 hBo hRr hFr hb2 hbr;have o0:=hB2.c0;have r0:=hR2.c0;have z0:=hR2.free 0;have o1:=hB2.c1;have r1:=hR2.c1;have z1:=hR2.free 1;have o2:=hB2.c2;have r2:=hR2.c2;have z2:=hR2.free 2;have o3:=hB2.c3;have r3:=hR2.c3;have z3:=hR2.free 3;have o4:=hB2.c4;have r4:=hR2.c4;have z4:=hR2.free 4;have o5:=hB2.c5;have r5:=hR2.c5;have z5:=hR2.free 5;clear hB2 hR2
      cases ob with
      |false=>
       go_wp2_with fail;refine bodyPost_ret (v:=.tuple #[.agg #[.int .i64 0,.slice none 0 0,.int .u64 0,.int .u64 0,.int .u64 0,.int .u64 0],.bool false]) (by simp[results,go_sem, *]) rfl ?_;unfold ex3;rw[HAP3.out,←HOB.out,if_neg (by simp)];exact⟨(((((hb3.setCell (by simp;omega) _).setCell (by simp;omega) _).setCell (by simp;omega) _).setCell (by simp;omega) _).setCell (by simp;omega) _).setCell (by simp;omega) _,rfl⟩
      |true=>
       go_wp2_with fail;refine bodyPost_ret (v:=.tuple #[.agg #[.int .i64 g',.slice A3 (N+n2) (N+n2),.int .u64 (x0:Int),.int .u64 (x1:Int),.int .u64 (x2:Int),.int .u64 (x3:Int)],.bool true]) (by simp[results,go_sem, *]) rfl ?_;unfold ex3;rw[HAP3.out,←HOB.out,if_pos rfl];refine⟨(((((hb3.setCell (by simp;omega) _).setCell (by simp;omega) _).setCell (by simp;omega) _).setCell (by simp;omega) _).setCell (by simp;omega) _).setCell (by simp;omega) _,A3,N+n2,N+n2,by rw[←HUX.out];rfl,?_⟩;have hne:∀q,A3=some q→q.block≠w.heap.size+1+1:=fun q hq=>by
        have:=hF2.low q hq;omega
       have hch:=(((((uw w2 ⟨w.heap.size+1+1,0,none⟩ (.int .i64 g')).setCell (p:=⟨w.heap.size+1+1,1,none⟩) (.slice A3 (N+n2) (N+n2)) (.inl (by simp))).setCell (p:=⟨w.heap.size+1+1,2,none⟩) (.int .u64 (x0:Int)) (.inl (by simp))).setCell (p:=⟨w.heap.size+1+1,3,none⟩) (.int .u64 (x1:Int)) (.inl (by simp))).setCell (p:=⟨w.heap.size+1+1,4,none⟩) (.int .u64 (x2:Int)) (.inl (by simp))).setCell (p:=⟨w.heap.size+1+1,5,none⟩) (.int .u64 (x3:Int)) (.inl (by simp));have hF9:=hF2.chg hch (fun q hq h=>hne q hq (by simpa using h));rw[←HUX.out];exact⟨hF9.row,x_ _,h_ hF9.nc hF9.cm,fun q hq=>by have:=hF9.low q hq;omega⟩
end
section
open Go Go.RowKit
theorem tw2 {P:Program} {ops:Array Oper} {o:Oper} {a:Act} {w:World} {K:Act→World→Prop} {Q:Exit→Act→World→Prop} {E:Prop} (hgd:o.guard=none) (s x:Operand) (t:TypeId)
  (ho:o.op=.call { callee:=.builtin .append,args:=#[s,x],argTypes:=#[t,t] })
  (base:Nat) (e:TypeId) (i:TypeInfo) (z:Value) (size bytes:Nat) (ht:P.underlying t=some (.slice e)) (hi:P.info? e=some i) (hz:i.zero=some z)
  (hsize:i.size=size) (hby:i.bytes=bytes) (hzs:z.cells.size=size) (hsz:0 < size) (hbase:base≤w.heap.size) (v:Value) (n:Nat) (xs:List Value) (hs:a.eval s=v) (hown:w.ownsRow base e size v n xs)
  (B:Nat) (A:Option Addr) (m c:Nat) (news:List Value) (hx:a.eval x=.slice A m c) (hr:Row B w A m size news) (h1:∀u∈news,u.oneCell'=true)
  (N:Nat) (X:List Value) (hN:n+m=N) (hX:xs++news=X) (h63:N≤maxLen) (hbytes:N *bytes≤140737488355328)
  (h:∀A' c' w',w'.ownsRow base e size (.slice A' N c') N X→w.grownBy w' v.ownBlock→N≤c'→c'≤maxLen→((Value.slice A' N c').ownBlock=v.ownBlock∨(Value.slice A' N c').ownBlock=some w.heap.size)→K (a.put o.dst (.slice A' N c')) w'):
  if Region.wanted o (yielded ops a.tmps)=true then Oper.wp P o a w K Q else E:=by
 have hw:Region.wanted o (yielded ops a.tmps)=true:=by simp[Region.wanted,hgd]
 rw[if_pos hw];subst hN;subst hX;obtain⟨A',c',w',hrun,h3,h4,h5,h7,h6⟩:=kw2 (P:=P) w base t o.type e i z size bytes ht hi hz hsize hby hzs hsz v n xs hown B A m c news hr h1 h63 hbytes hbase;unfold Oper.wp execOp;simp only[ho,resolve,invoke,builtin,Sem.run_bind,Sem.run_pure,Result.andThen_ok,by_,aw_,bb_,hs,hx,hrun];exact h A' c' w' h3 h4 h5 h7 h6
theorem gj1.base {B B' n c:Nat} {w:World} {A:Option Addr} {fs:List (Int×Int)} (h:gj1 B w A n c fs) (hb:B'≤B):gj1 B' w A n c fs:=⟨h.row,h.nc,h.cm,fun a ha=>h_ hb (h.low a ha)⟩
theorem BoxO.grown {w w':World} {e:TypeId} {g:Nat} {xs:List Value} (h:BoxO w e g xs) (hg:w.grownBy w' none):BoxO w' e g xs:=(hg.block g h.lt (by simp)).trans h
theorem gw4 (v:Vw) (A:Option Addr) (n c:Nat) (w:World) (hn:n≤100000) (hr:Row w.heap.size w A n 2 (ax v.files)):
  Calls Tryz.prog 157 #[v.val A n c] w fun e w'=>∃A' c',e=.returned (v.val A' n c')∧gj1 w.heap.size w' A' n c' v.files∧Below w.heap.size w w':=by
 obtain⟨i0,hi0,hz0,hz1,hz2⟩:=info_parts jw1;obtain⟨g,fs,f,ce,a,l⟩:=v;unfold Vw.val;simp only at hr ⊢;go_enter Tryz.func157,Tryz.ntmps157;go_wp2_with (at_builtin;refine iy ?_);have hbw:Below w.heap.size w ((w.alloc (.cells #[.int .i64 g,.slice A n c,.int .u64 (f:Int),.int .u64 (ce:Int),.int .u64 (a:Int),.int .u64 (l:Int)] 86)).alloc (.cells #[.int .i64 0,.slice none 0 0,.int .u64 0,.int .u64 0,.int .u64 0,.int .u64 0] 86)):=(b_ _ _).alloc (by simp) _;have hP:=(BoxO.new w #[.int .i64 g,.slice A n c,.int .u64 (f:Int),.int .u64 (ce:Int),.int .u64 (a:Int),.int .u64 (l:Int)] 86).alloc (.cells #[.int .i64 0,.slice none 0 0,.int .u64 0,.int .u64 0,.int .u64 0,.int .u64 0] 86);have hR:=BoxO.new (w.alloc (.cells #[.int .i64 g,.slice A n c,.int .u64 (f:Int),.int .u64 (ce:Int),.int .u64 (a:Int),.int .u64 (l:Int)] 86)) #[.int .i64 0,.slice none 0 0,.int .u64 0,.int .u64 0,.int .u64 0,.int .u64 0] 86;simp only[A_]at hR;have hsz:((w.alloc (.cells #[.int .i64 g,.slice A n c,.int .u64 (f:Int),.int .u64 (ce:Int),.int .u64 (a:Int),.int .u64 (l:Int)] 86)).alloc (.cells #[.int .i64 0,.slice none 0 0,.int .u64 0,.int .u64 0,.int .u64 0,.int .u64 0] 86)).heap.size=w.heap.size+1+1:=by simp
 refine gz (ry rfl _ (.tmp 4) _ rfl (w.heap.size+1+1) 170 i0 _ 2 16 Tryz.underlying84 hi0 hz0 hz1 hz2 rfl (by omega) ((w.alloc (.cells #[.int .i64 g,.slice A n c,.int .u64 (f:Int),.int .u64 (ce:Int),.int .u64 (a:Int),.int .u64 (l:Int)] 86)).alloc (.cells #[.int .i64 0,.slice none 0 0,.int .u64 0,.int .u64 0,.int .u64 0,.int .u64 0] 86)) b0_ (by rw[hsz];exact x_ _) rfl w.heap.size A n c (ax fs) rfl (hr.below hbw) (dq1 _) (by unfold maxLen;omega) (by omega) ?_);intro A1 k1 w1 ho1 hb1 hg1 hk1 hm1;have hbl1:Below w.heap.size w w1:=hbw.trans (hb1.mono (by omega));have hP1:BoxO w1 _ _ _:=hP.grown hg1;have hR1:BoxO w1 _ _ _:=hR.grown hg1;have hF:=xj1 ho1 l_;clear hbw hP hR hsz hb1 hg1 ho1;have q0:=hP1.c0;have q1:=hP1.c1;have z1:=hP1.free 1;have q2:=hP1.c2;have q3:=hP1.c3;have q4:=hP1.c4;have q5:=hP1.c5;have r0:=hR1.c0;have y0:=hR1.free 0;have r1:=hR1.c1;have y1:=hR1.free 1;have r2:=hR1.c2;have y2:=hR1.free 2;have r3:=hR1.c3;have y3:=hR1.free 3;have r4:=hR1.c4;have y4:=hR1.free 4;have r5:=hR1.c5;have y5:=hR1.free 5;clear hP1 hR1;go_wp2_with fail;refine bodyPost_ret (v:=.agg #[.int .i64 g,.slice A1 n k1,.int .u64 (f:Int),.int .u64 (ce:Int),.int .u64 (a:Int),.int .u64 (l:Int)]) (by simp[results,go_sem, *]) rfl ⟨A1,k1,rfl,?_,?_⟩
 ·have hch:Chg [w.heap.size,w.heap.size+1] w1 _:=(((((((Chg.refl _ w1).setCell (p:=⟨w.heap.size,1,none⟩) (.slice A1 n k1) (.inl (by simp))).setCell (p:=⟨w.heap.size+1,0,none⟩) (.int .i64 g) (.inl (by simp))).setCell (p:=⟨w.heap.size+1,1,none⟩) (.slice A1 n k1) (.inl (by simp))).setCell (p:=⟨w.heap.size+1,2,none⟩) (.int .u64 (f:Int)) (.inl (by simp))).setCell (p:=⟨w.heap.size+1,3,none⟩) (.int .u64 (ce:Int)) (.inl (by simp))).setCell (p:=⟨w.heap.size+1,4,none⟩) (.int .u64 (a:Int)) (.inl (by simp))).setCell (p:=⟨w.heap.size+1,5,none⟩) (.int .u64 (l:Int)) (.inl (by simp))
  exact(hF.chg hch (fun q hq h=>by
   have:=hF.low q hq;simp at h;omega)).base (by omega)
 ·exact((((((hbl1.setCell (by simp) _).setCell (by simp) _).setCell (by simp) _).setCell (by simp) _).setCell (by simp) _).setCell (by simp) _).setCell (by simp) _
theorem kz33 {P S a oi v} (h:Hv P S a oi v:=by intro w hSw;have u0:=hSw.2.c0;have u1:=hSw.2.c1;have u2:=hSw.2.c2;have u3:=hSw.2.c3;have u4:=hSw.2.c4;have u5:=hSw.2.c5;go_simp;try (with_reducible rfl)):Hv P S a oi v:=h
theorem ck4 (v:Vw) (A:Option Addr) (n c:Nat) (w:World) (hn:n≤100000) (hr:Row w.heap.size w A n 2 (ax v.files)):
  Calls Tryz.prog 248 #[v.val A n c] w fun e w'=>∃A' c',e=.returned (v.whole.val none 0 0 A' n c')∧gj1 w.heap.size w' A' n c' v.files∧Below w.heap.size w w':=by
 obtain⟨i0,hi0,hz0,hz1,hz2⟩:=info_parts jw1;obtain⟨g,fs,f,ce,a,l⟩:=v;unfold Vw.val Vw.whole Ed.val;simp only at hr ⊢;go_enter Tryz.func248,Tryz.ntmps248;go_wp2_with fail;change Code.wp _ _ _ _ ((w.alloc (.cells #[.int .i64 g,.slice A n c,.int .u64 (f:Int),.int .u64 (ce:Int),.int .u64 (a:Int),.int .u64 (l:Int)] 86)).alloc (.cells #[.slice none 0 0,.slice none 0 0,.int .i64 0,.int .u64 0,.int .u64 0,.int .u64 0,.int .u64 0] 194));have hbw:Below w.heap.size w ((w.alloc (.cells #[.int .i64 g,.slice A n c,.int .u64 (f:Int),.int .u64 (ce:Int),.int .u64 (a:Int),.int .u64 (l:Int)] 86)).alloc (.cells #[.slice none 0 0,.slice none 0 0,.int .i64 0,.int .u64 0,.int .u64 0,.int .u64 0,.int .u64 0] 194)):=(b_ _ _).alloc (by simp) _;have hP:=(BoxO.new w #[.int .i64 g,.slice A n c,.int .u64 (f:Int),.int .u64 (ce:Int),.int .u64 (a:Int),.int .u64 (l:Int)] 86).alloc (.cells #[.slice none 0 0,.slice none 0 0,.int .i64 0,.int .u64 0,.int .u64 0,.int .u64 0,.int .u64 0] 194);have hR:=BoxO.new (w.alloc (.cells #[.int .i64 g,.slice A n c,.int .u64 (f:Int),.int .u64 (ce:Int),.int .u64 (a:Int),.int .u64 (l:Int)] 86)) #[.slice none 0 0,.slice none 0 0,.int .i64 0,.int .u64 0,.int .u64 0,.int .u64 0,.int .u64 0] 194;simp only[A_]at hR;have hsz:((w.alloc (.cells #[.int .i64 g,.slice A n c,.int .u64 (f:Int),.int .u64 (ce:Int),.int .u64 (a:Int),.int .u64 (l:Int)] 86)).alloc (.cells #[.slice none 0 0,.slice none 0 0,.int .i64 0,.int .u64 0,.int .u64 0,.int .u64 0,.int .u64 0] 194)).heap.size=w.heap.size+1+1:=by simp
 have hrV:=hr.below hbw;generalize ((w.alloc (.cells #[.int .i64 g,.slice A n c,.int .u64 (f:Int),.int .u64 (ce:Int),.int .u64 (a:Int),.int .u64 (l:Int)] 86)).alloc (.cells #[.slice none 0 0,.slice none 0 0,.int .i64 0,.int .u64 0,.int .u64 0,.int .u64 0,.int .u64 0] 194))=V at *;have HRV:=H_ hrV.drew;have HSZ:Hid (w.heap.size+1+1≤V.drew.heap.size):=H_ (bk_ hsz.symm);clear hrV hr hsz;refine wp_region_held_drew (S:=(fun w'=>Below w.heap.size w w'∧BoxO w' 86 w.heap.size [.int .i64 g,.slice A n c,.int .u64 (f:Int),.int .u64 (ce:Int),.int .u64 (a:Int),.int .u64 (l:Int)])) rfl ⟨ak hbw,hP.drew⟩ (fun hSw=>?_);refine w_v 0 hSw ?_ (k:=kz33);go_simp;refine w_v 1 hSw ?_ (k:=kz33);go_simp;refine w_v 3 hSw ?_ (k:=kz33);go_simp;refine w_v 4 hSw ?_ (k:=kz33);go_simp;refine w_v 5 hSw ?_ (k:=kz33);go_simp;refine w_v 6 hSw ?_ (k:=kz33);go_simp;refine w_v 7 hSw ?_ (k:=kz33);go_simp;refine w_v 8 hSw ?_ (k:=kz33);go_simp;refine w_v 9 hSw ?_ (k:=kz33);go_simp;refine w_v 10 hSw ?_ (k:=kz33);go_simp;refine w_v 11 hSw ?_ (k:=kz33);go_simp;refine w_v 12 hSw ?_ (k:=kz33);go_simp;refine w_r 2 fun K hK=>?_;refine tw2 rfl (.const (.slice none 0 0)) (.tmp 4) _ rfl (w.heap.size+1+1) 170 i0 _ 2 16 Tryz.underlying84 hi0 hz0 hz1 hz2 rfl (by omega) HSZ.out (.slice none 0 0) 0 [] rfl (E_ _ _ _ _) w.heap.size A n c (ax fs) rfl HRV.out (dq1 _) n _ (ag_ _) (y_ _) (by unfold maxLen;omega) (by omega) ?_;intro A4 c4 w4 hown4 hg4 _ _ _;have hF4:=xj1 (B:=w.heap.size+1+1) hown4 l_;have hR4:BoxO w4 _ _ _:=hR.drew.grown hg4;have hS4:=(⟨hSw.1.grown hg4 hSw.1.size (fun k hk=>by cases hk),hSw.2.grown hg4⟩:Below w.heap.size w w4∧BoxO w4 86 w.heap.size [.int .i64 g,.slice A n c,.int .u64 (f:Int),.int .u64 (ce:Int),.int .u64 (a:Int),.int .u64 (l:Int)]);refine hK.out _ _ hS4 (fun hSn=>?_);clear hK K hSw hSn;have hSw:=hS4;clear hS4 hown4 hg4 hR hP hbw HRV HSZ;go_simp;refine w_v 13 hSw ?_ (k:=kz33);go_simp;have r0:=hR4.c0;have y0:=hR4.free 0;have r1:=hR4.c1;have y1:=hR4.free 1;have r2:=hR4.c2;have y2:=hR4.free 2;have r3:=hR4.c3;have y3:=hR4.free 3;have r4:=hR4.c4;have y4:=hR4.free 4;have r5:=hR4.c5;have y5:=hR4.free 5;have r6:=hR4.c6;have y6:=hR4.free 6;have hch:Chg [w.heap.size+1] w4 _:=(((((((Chg.refl _ w4).setCell (p:=⟨w.heap.size+1,0,none⟩) (.slice none 0 0) (.inl (by simp))).setCell (p:=⟨w.heap.size+1,1,none⟩) (.slice A4 n c4) (.inl (by simp))).setCell (p:=⟨w.heap.size+1,2,none⟩) (.int .i64 g) (.inl (by simp))).setCell (p:=⟨w.heap.size+1,3,none⟩) (.int .u64 (f:Int)) (.inl (by simp))).setCell (p:=⟨w.heap.size+1,4,none⟩) (.int .u64 (ce:Int)) (.inl (by simp))).setCell (p:=⟨w.heap.size+1,5,none⟩) (.int .u64 (a:Int)) (.inl (by simp))).setCell (p:=⟨w.heap.size+1,6,none⟩) (.int .u64 (l:Int)) (.inl (by simp));refine w_r 14 fun K hK=>?_;go_simp;refine hK.out _ _ ⟨(((((((hSw.1.setCell (by simp) _).setCell (by simp) _).setCell (by simp) _).setCell (by simp) _).setCell (by simp) _).setCell (by simp) _).setCell (by simp) _),hSw.2.chg hch (by simp)⟩ ?_;clear hSw hK K;intro hSw;go_simp;refine wpAnyH_done (by kernel_rfl) ?_ _;go_wp2_with fail;refine bodyPost_ret (v:=.agg #[.slice none 0 0,.slice A4 n c4,.int .i64 g,.int .u64 (f:Int),.int .u64 (ce:Int),.int .u64 (a:Int),.int .u64 (l:Int)]) (by simp[results,go_sem, *]) rfl ⟨A4,c4,rfl,?_,hSw.1⟩;exact(hF4.chg hch (fun q hq h=>by
  have:=hF4.low q hq;simp at h;omega)).base (by omega)
end
section
open Go Go.RowKit
def put2 (f:Int×Int):List UInt8:=Pn.put f.1.toNat++Pn.put f.2.toNat
theorem cz4 (ns:List Nat):(Pn.list ns).length≤10+ns.length *10:=by
 have h1:=(Pn.ik ns.length).2;have h2:=uq1 ns;simp only[Pn.list,e_];omega
theorem wx2 {e:Ed} (h:e.may=true):e.drop.length≤40∧e.add.length≤40∧0≤e.log∧e.log≤1073741824∧e.floor≤281474976710656∧e.cert≤281474976710656∧e.at_≤281474976710656∧e.lease≤281474976710656∧
  (∀n∈e.drop,1≤n∧n≤1073741824)∧(∀f∈e.add,0≤f.1∧f.1≤3∧1≤f.2∧f.2≤1073741824):=by
 simp only[Ed.may,tx2,K_,decide_eq_true_eq]at h;obtain⟨⟨⟨⟨⟨h1,h2⟩,h3⟩,h4⟩,h5⟩,h6⟩:=h;refine⟨h1,h2,h3.1,h3.2,h4.1.1.1,h4.1.1.2,h4.1.2,h4.2,fun n hn=>?_,fun f hf=>?_⟩
 ·have:=al_.1 h5 n hn
  simpa [isNum] using this
 ·have:=al_.1 h6 f hf
  simp only[wz,isNum,K_,decide_eq_true_eq]at this;exact⟨this.2.1,this.2.2,this.1.1,this.1.2⟩
theorem kv4 (A:Option Addr) (N c0:Nat) (e:Ed) (D:Option Addr) (m d:Nat) (A2:Option Addr) (n c:Nat) (w:World) (hbad:e.may=false) (hm:m≤1000000) (hn:n≤1000000) (hrd:Row w.heap.size w D m 1 (vk e.drop)) (hra:Row w.heap.size w A2 n 2 (ax e.add)):
  Calls Tryz.prog 247 #[.slice A N c0,e.val D m d A2 n c] w fun x w'=>x=.returned (.tuple #[.slice none 0 0,.int .i64 1])∧Below w.heap.size w w':=by
 have hmay:=fun W (h:Below w.heap.size w W)=>vj3 e D m d A2 n c W hm hn ((hrd.below h).up h.size) ((hra.below h).up h.size);rw[hbad]at hmay;unfold Ed.val at *;have HM:=H_ hmay;clear hmay hrd hra;go_enter Tryz.func247,Tryz.ntmps247;have hb0:=b_ w (.cells #[.slice D m d,.slice A2 n c,.int .i64 e.log,.int .u64 (e.floor:Int),.int .u64 (e.cert:Int),.int .u64 (e.at_:Int),.int .u64 (e.lease:Int)] 194);go_wp2_with fail;refine(HM.out _ hb0).mono ?_;rintro x w1 ⟨rfl,hb1⟩;have hbz:=az hb0 hb1;clear hb0 hb1;go_wp2;exact bodyPost_ret (v:=.tuple #[.slice none 0 0,.int .i64 1]) (by simp[results,go_sem]) rfl ⟨rfl,hbz⟩
theorem ix3 (A:Option Addr) (N c0:Nat) (b:List UInt8) (e:Ed) (D:Option Addr) (m d:Nat) (A2:Option Addr) (n c:Nat) (w:World) (hgood:e.may=true) (hrd:Row w.heap.size w D m 1 (vk e.drop)) (hra:Row w.heap.size w A2 n 2 (ax e.add))
  (hN:N≤400000000) (hNc:N≤c0) (hc:c0≤maxLen) (hr:Row w.heap.size w A N 1 (bts b)):
  Calls Tryz.prog 247 #[.slice A N c0,e.val D m d A2 n c] w fun x w'=>∃A' K c',x=.returned (.tuple #[.slice A' K c',.int .i64 0])∧
   w'.ownsRow w.heap.size 5 1 (.slice A' K c') K (bts (b++e.rec_))∧K≤c'∧c'≤maxLen∧Below w.heap.size w w':=by
 have hdl:=hrd.ilen;have hal:=hra.flen;obtain⟨hp1,hp2,hp3,hp4,hp5,hp6,hp7,hp8,hp9,hp10⟩:=wx2 hgood;have hbl0:=Ed.aq1 e hgood;have hmay:=fun W (h:Below w.heap.size w W)=>vj3 e D m d A2 n c W (by omega) (by omega) ((hrd.below h).up h.size) ((hra.below h).up h.size);rw[hgood]at hmay;have hrec:e.rec_=Fr.put 6 e.bytes:=rfl;have hbyt:e.bytes=Pn.list (e.drop.map Int.toNat)++Pn.put e.add.length++e.add.flatMap put2++[e.log.toNat,e.floor,e.cert,e.at_,e.lease].flatMap Pn.put:=by
  simp[Ed.bytes];rfl
 rw[hrec];generalize e.bytes=EB at *;obtain⟨ds,fs,G,F,C,AA,L⟩:=e;simp only at hdl hal hp1 hp2 hp3 hp4 hp5 hp6 hp7 hp8 hp9 hp10 hbyt hrd hra;unfold Ed.val at hmay ⊢;simp only at hmay ⊢;obtain⟨g,rfl⟩:∃g:Nat,G=(g:Int):=⟨G.toNat,by omega⟩;rw[Int.toNat_natCast,hal]at hbyt;have HM:=H_ hmay;have HBY:=H_ hbyt;have HBL:=H_ hbl0;have H9:=H_ hp9;have H10:=H_ hp10;clear hmay hbyt hbl0 hp9 hp10 hrec hgood;have hnw:IntKind.u64.wrap (n:Int)=(n:Int):=by rw[IntKind.wrap_u64];omega
 have hgw:IntKind.u64.wrap (g:Int)=(g:Int):=by rw[IntKind.wrap_u64];omega
 obtain⟨j0,hj0,hj1,hj2,hj3⟩:=info_parts (show (Tryz.prog.info? 22).map (fun i=>(i.zero,i.size,i.bytes))=some (some (.int .u64 0),1,8) by kernel_rfl);go_enter Tryz.func247,Tryz.ntmps247;have hb0:=b_ w (.cells #[.slice D m d,.slice A2 n c,.int .i64 (g:Int),.int .u64 (F:Int),.int .u64 (C:Int),.int .u64 (AA:Int),.int .u64 (L:Int)] 194);have hx0:=BoxO.new w #[.slice D m d,.slice A2 n c,.int .i64 (g:Int),.int .u64 (F:Int),.int .u64 (C:Int),.int .u64 (AA:Int),.int .u64 (L:Int)] 194;go_wp2_with fail;refine(HM.out _ hb0).mono ?_;rintro x w1 ⟨rfl,hb1⟩;have hx1:=hx0.below hb1;have hbz:=az hb0 hb1;have hsz1:w.heap.size+1≤w1.heap.size:=by have:=hb1.size;simp at this;omega
 clear hb0 hb1 hx0 HM;have p0:=hx1.c0;go_wp2_with fail
 go_loopw [6,20] (fun s x wr=>∃(k:Nat) (A':Option Addr) (cc:Nat),k≤m∧s=.slice A' k cc∧x=.int .i64 (k:Int)∧wr.ownsRow (w.heap.size+1) 22 1 (.slice A' k cc) k (u64v ((ds.take k).map Int.toNat))∧
  BoxO wr 194 w.heap.size [.slice D m d,.slice A2 n c,.int .i64 (g:Int),.int .u64 (F:Int),.int .u64 (C:Int),.int .u64 (AA:Int),.int .u64 (L:Int)]∧Below w.heap.size w wr∧w.heap.size+1≤wr.heap.size) (fun _ x _=>m - (intOf x).toNat)
 case atStart=>exact⟨0,none,0,t_ _,rfl,rfl,E_ _ _ _ _,hx1,hbz,hsz1⟩
 case round=>
  obtain⟨k,A',cc,hk,rfl,rfl,hown,hx,hbl,hsz⟩:=hrel;clear hx1 hbz hsz1 p0
  by_cases hlt:k < m
  ·obtain⟨da,hl,rfl,hdb,hdc⟩:=(hrd.below hbl).int_ hlt
   have hxr:=H9.out ds[k] (v_ hl);have htk:ds.take (k+1)=ds.take k++[ds[k]]:=(aC_ hl).symm;generalize ds[k]=x at *;obtain⟨q,rfl⟩:∃q:Nat,x=(q:Int):=⟨x.toNat,by omega⟩;have HT:=H_ htk;clear htk hl;have hqw:IntKind.u64.wrap (q:Int)=(q:Int):=by rw[IntKind.wrap_u64];omega
   have hrow:=Row.new (n:=1) (size:=1) wr #[.int .u64 (q:Int)] 22 rfl;go_wp2_with (at_builtin;refine iy ?_);refine gz (jq rfl (.tmp 24) (.tmp 27) _ rfl (w.heap.size+1) 22 j0 _ 1 8 Tryz.underlying341 hj0 hj1 hj2 hj3 rfl (by omega) (wr.alloc (.cells #[.int .u64 (q:Int)] 22)) b0_ (by simp;omega) (.slice A' k cc) k (u64v ((ds.take k).map Int.toNat)) rfl (hown.alloc _) (wr.heap.size+1) _ 1 1 [.int .u64 (q:Int)] rfl hrow (by simp[Value.oneCell']) (k+1) _ rfl rfl (by unfold maxLen;omega) (by omega) ?_);intro A3 c3 w3 ho3 hb3 hg3 hc3 hm3;have hx3:BoxO w3 _ _ _:=(hb3.block _ (by omega)).trans (hx.alloc _);have hbl3:=(hbl.alloc hbl.size (.cells #[.int .u64 (q:Int)] 22)).trans (hb3.mono (by omega));have hsz3:w.heap.size+1≤w3.heap.size:=by have:=hb3.size;simp at this;omega
   clear hown hx hbl hb3 hg3 hrow;go_wp2_with fail;go_roundw
   case rel=>
    refine⟨k+1,A3,c3,by omega,rfl,by go_num,?_,hx3,hbl3,hsz3⟩;rw[HT.out];simpa [u64v] using ho3
   case measure=>simp[intOf];omega
  ·obtain rfl:m=k:=by omega
   have hns:(ds.take m).map Int.toNat=ds.map Int.toNat:=by rw[i_ (by omega)]
   rw[hns]at hown;obtain⟨ns,hnse⟩:=n_ (ds.map Int.toNat);rw[←hnse]at hown;have hnsl:ns.length=m:=by rw[hnse,az_,hdl]
   have hns64:∀x∈ns,x < 18446744073709551616:=by
    intro x hx;rw[hnse]at hx;obtain⟨y,hy,rfl⟩:=bc_.1 hx;have:=H9.out y hy;omega
   have hby:=HBY.out;rw[←hnse]at hby;have HBY2:=H_ hby;have hrow:=(Row.own hown).drew;have hll:=cz4 ns;have hpl:=(Pn.ik n).2;have HR:=H_ hrow;have HN:=H_ hns64;have hxlt:=hx.lt;have hc1:=hx.c1;have hd1:∀w2,Below wr.heap.size wr.drew w2→w2.cell? ⟨w.heap.size,1,none⟩=some (.slice A2 n c):=fun w2 h=>(h.cell (p:=⟨w.heap.size,1,none⟩) hxlt).trans hc1;have HD1:=H_ hd1;have HLL:=H_ hll;have HPL:=H_ hpl;have HNL:=H_ hnsl;clear hns hnse hns64 hby HBY hrow hll hpl hnsl hd1 hown;go_upto_region 9 with (fail)
   go_cut [9] (fun s wx=>∃A3 M3 c3,s=.slice A3 M3 c3∧wx.ownsRow w.heap.size 5 1 (.slice A3 M3 c3) M3 (bts (Pn.list ns++Pn.put n))∧M3≤500∧M3≤c3∧c3≤maxLen∧Below wr.heap.size wr wx)
   case first=>
    go_region_with (first
     |(go_at_call 306;refine(sy4 none 0 0 [] A' m cc ns _ (by omega) (by omega) Row.nil_ HR.out HN.out).mono ?_;rintro e w2 ⟨A3,M3,c3,rfl,ho3,hM3,hc3,hb3⟩;have q1:=HD1.out w2 hb3)
     |(go_at_call 251;refine(put_any _ _ _ ([] ++Pn.list ns) n (by omega) _ (by have h1:=ho3.1;rw[pq,y_]at h1;have:=HLL.out;have:=HNL.out;omega) (Row.own ho3)).mono ?_;rintro e w3 ⟨A4,c4,rfl,ho4,hc4,hm4,hb4⟩))
    all_goals
     go_wp2_with fail
     go_meet
     refine⟨_,_,_,rfl,own_base ho4 (h_ hbl.size hb3.size:w.heap.size≤w2.heap.size),?_,hc4,hm4,((Below.refl wr.heap.size wr).drew.trans hb3).trans (hb4.mono hb3.size)⟩;have h1:=ho4.1;have h2:=HLL.out;have h3:=HPL.out;have h4:=HNL.out;rw[pq,y_,e_]at h1;omega
   case rest=>
    obtain⟨A3,M3,c3,rfl,ho3,hM3,hc3,hm3,hb3⟩:=hcut;have hx3:=hx.below hb3;have hbl3:=az hbl hb3;have hsz3:w.heap.size+1≤wc.heap.size:=by have:=hb3.size;omega
    clear hx hbl hb3 HD1 HR hc1 hsz HN;have p1:=hx3.c1;go_wp2_with fail
    go_loopw [9,40] (fun s x wr=>∃(k:Nat) (A':Option Addr) (M cc:Nat),k≤n∧s=.slice A' M cc∧x=.int .i64 (k:Int)∧wr.ownsRow w.heap.size 5 1 (.slice A' M cc) M (bts (Pn.list ns++Pn.put n++(fs.take k).flatMap put2))∧M≤500+20 *k∧M≤cc∧cc≤maxLen∧
     BoxO wr 194 w.heap.size [.slice D m d,.slice A2 n c,.int .i64 (g:Int),.int .u64 (F:Int),.int .u64 (C:Int),.int .u64 (AA:Int),.int .u64 (L:Int)]∧Below w.heap.size w wr) (fun _ x _=>n - (intOf x).toNat)
    case atStart=>exact⟨0,A3,M3,c3,t_ _,rfl,rfl,by simpa using ho3,by omega,hc3,hm3,hx3,hbl3⟩
    case round=>
     obtain⟨k,A5,M5,c5,hk,rfl,rfl,ho5,hM5,hc5,hm5,hx5,hbl5⟩:=hrel;clear ho3 hx3 hbl3 hsz3 p1
     by_cases hlt2:k < n
     ·obtain⟨fa,hl,rfl,hfb,f0,f1⟩:=(hra.below hbl5).file hlt2
      have hxr:=H10.out fs[k] (v_ hl);have htk:fs.take (k+1)=fs.take k++[fs[k]]:=(aC_ hl).symm;generalize fs[k]=x at *;obtain⟨x0,x1⟩:=x;simp only at hxr f0 f1;obtain⟨lv,rfl⟩:∃q:Nat,x0=(q:Int):=⟨x0.toNat,by omega⟩;obtain⟨nm,rfl⟩:∃q:Nat,x1=(q:Int):=⟨x1.toNat,by omega⟩;have HT:=H_ htk;have hlw:IntKind.u64.wrap (lv:Int)=(lv:Int):=by rw[IntKind.wrap_u64];omega
      have hnmw:IntKind.u64.wrap (nm:Int)=(nm:Int):=by rw[IntKind.wrap_u64];omega
      have hxF:=BoxO.new wr #[.int .i64 (lv:Int),.int .i64 (nm:Int)] 170;have hrW:Row _ _ A5 M5 1 _:=((Row.own ho5).alloc l_ (.cells #[.int .i64 (lv:Int),.int .i64 (nm:Int)] 170)).drew;have hbA:=b_ wr (.cells #[.int .i64 (lv:Int),.int .i64 (nm:Int)] 170);clear htk hl ho5;go_wp2_with fail;change Code.wp _ _ _ _ (wr.alloc (.cells #[.int .i64 (lv:Int),.int .i64 (nm:Int)] 170));have hx7:=hx5.alloc (.cells #[.int .i64 (lv:Int),.int .i64 (nm:Int)] 170);have hbl7:=az hbl5 hbA;generalize wr.alloc (.cells #[.int .i64 (lv:Int),.int .i64 (nm:Int)] 170)=V at *;have hVlt:=hxF.lt;have v0:=hxF.c0;have v1:=hxF.c1;have hd:∀w2,Below V.heap.size V.drew w2→w2.cell? ⟨wr.heap.size,0,none⟩=some (.int .i64 (lv:Int))∧w2.cell? ⟨wr.heap.size,1,none⟩=some (.int .i64 (nm:Int)):=fun w2 h=>⟨(h.cell (p:=⟨wr.heap.size,0,none⟩) hVlt).trans v0,(h.cell (p:=⟨wr.heap.size,1,none⟩) hVlt).trans v1⟩;have HD:=H_ hd;have HR5:=H_ (hrW.up (B':=V.drew.heap.size) (Nat.le_of_lt hVlt));have hl1:=(Pn.ik lv).2;have hl2:=(Pn.ik nm).2;have HL1:=H_ hl1;have HL2:=H_ hl2;clear hd hrW hbA hx5 hbl5 hl1 hl2 f0 f1
      go_region_with (first
       |(go_at_call 251;(with_reducible refine(put_any A5 M5 c5 (Pn.list ns++Pn.put n++(fs.take k).flatMap put2) lv (by omega) _ (by omega) HR5.out).mono ?_);rintro e w2 ⟨A6,c6,rfl,ho6,hc6,hm6,hb6⟩;obtain⟨q0,q1⟩:=HD.out w2 hb6)
       |(go_at_call 251;(with_reducible refine(put_any A6 _ c6 (Pn.list ns++Pn.put n++(fs.take k).flatMap put2++Pn.put lv) nm (by omega) _ (by have:=HL1.out;omega) (Row.own ho6)).mono ?_);rintro e w3 ⟨A7,c7,rfl,ho7,hc7,hm7,hb7⟩))
      all_goals
       have hbe:=((Below.refl V.heap.size V).drew.trans hb6).trans (hb7.mono hb6.size);have hx8:=hx7.below hbe;have hbl8:=az hbl7 hbe;have ho8:=own_base (base':=w.heap.size) ho7 (h_ hbl7.size hb6.size);clear hb6 hb7 hbe hx7 hbl7 ho6 ho7 hxF HR5 HD v0 v1;go_wp2_with fail;go_roundw
       case rel=>
        refine⟨k+1,A7,_,c7,by omega,rfl,by go_num,?_,by have h1:=HL1.out;have h2:=HL2.out;omega,hc7,hm7,hx8,hbl8⟩;rw[HT.out];simpa [put2,D_] using ho8
       case measure=>simp[intOf];omega
     ·obtain rfl:n=k:=by omega
      have hfs:fs.take n=fs:=i_ (by omega);rw[hfs]at ho5;have p2:=hx5.c2;have p3:=hx5.c3;have p4:=hx5.c4;have p5:=hx5.c5;have p6:=hx5.c6;have hM6:M5≤1300:=by omega
      clear hfs hx5 hlt2 hM5;go_wp2_with fail;have hb5:=hbl5.alloc hbl5.size (.cells #[.int .u64 (g:Int),.int .u64 (F:Int),.int .u64 (C:Int),.int .u64 (AA:Int),.int .u64 (L:Int)] 22);have hrow:=pq2 wr 22 #[.int .u64 (g:Int),.int .u64 (F:Int),.int .u64 (C:Int),.int .u64 (AA:Int),.int .u64 (L:Int)] [g,F,C,AA,L] 5 rfl rfl;have ho6:=ho5.alloc (.cells #[.int .u64 (g:Int),.int .u64 (F:Int),.int .u64 (C:Int),.int .u64 (AA:Int),.int .u64 (L:Int)] 22);clear p2 p3 p4 p5 p6 ho5 hbl5;change Code.wp _ _ _ _ (wr.alloc (.cells #[.int .u64 (g:Int),.int .u64 (F:Int),.int .u64 (C:Int),.int .u64 (AA:Int),.int .u64 (L:Int)] 22));generalize wr.alloc (.cells #[.int .u64 (g:Int),.int .u64 (F:Int),.int .u64 (C:Int),.int .u64 (AA:Int),.int .u64 (L:Int)] 22)=V at *;generalize wr.heap.size=hp at *;have hns:∀n∈[g,F,C,AA,L],n < 18446744073709551616:=by
       intro n hn;simp at hn;omega
      have hby:=HBY2.out;have hnl:[g,F,C,AA,L].length=5:=rfl;have HN:=H_ hns;have HNL:=H_ hnl;generalize hnsd:[g,F,C,AA,L]=vs at *;have HBY3:=H_ hby;have HD:=H_ hnsd;clear hns hby HBY2 hnl hnsd hgw hnw;obtain⟨LL,hLL⟩:=n_ (Pn.list ns++Pn.put n++fs.flatMap put2);rw[←hLL]at ho6;have hby4:=HBY3.out;rw[←hLL]at hby4;have HBY4:=H_ hby4;clear hLL hby4 HBY3
      go_loopw [9,67] (fun s x wr3=>∃(k:Nat) (A':Option Addr) (M c':Nat),k≤5∧s=.slice A' M c'∧x=.int .i64 (k:Int)∧M≤1300+10 *k∧wr3.ownsRow w.heap.size 5 1 (.slice A' M c') M (bts (LL++(vs.take k).flatMap Pn.put))∧M≤c'∧c'≤maxLen∧Below V.heap.size V wr3) (fun _ x _=>5 - (intOf x).toNat)
      case atStart=>exact⟨0,A5,M5,c5,by omega,rfl,rfl,by omega,by simpa using ho6,hc5,hm5,Below.refl _ _⟩
      case round=>
       obtain⟨k,A',M,c',hk,rfl,rfl,hM,hown,hMc,hcm,hbV⟩:=hrel
       by_cases hlt2:k < 5
       ·obtain⟨aa,hl,he,hab,hc⟩:=(hrow.below hbV).un hlt2
        injection he with he;subst he;have hxl:=HN.out vs[k] (v_ hl);have htk:vs.take (k+1)=vs.take k++[vs[k]]:=(aC_ hl).symm;generalize vs[k]=x at *;have HT:=H_ htk;clear htk;rw[sx4]at hc;go_wp2_with fail;refine(put_any A' M c' _ x hxl wr (by omega) (Row.own hown)).mono ?_;rintro e w2 ⟨A3,c3,rfl,ho3,hc3,hm3,hb3⟩;have hpl:=(Pn.ik x).2;have ho3':=own_base ho3 (h_ hb5.size hbV.size);have HPL:=H_ hpl;clear hpl ho3;go_wp2_with fail;go_roundw
        case rel=>
         refine⟨k+1,A3,M+(Pn.put x).length,c3,by omega,rfl,by go_num,by have h:=HPL.out;omega,?_,hc3,hm3,az hbV hb3⟩;rw[HT.out];simpa [D_] using ho3'
        case measure=>simp[intOf];omega
       ·obtain rfl:k=5:=by omega
        have hfin:LL++(vs.take 5).flatMap Pn.put=EB:=by
         rw[i_ (by have:=HNL.out;omega)];exact HBY4.out.symm
        rw[hfin]at hown;have hbw:=hb5.trans (hbV.mono hb5.size);have hEB:=HBL.out;clear hfin hrow ho6 hbV hb5;have hq:=Row.own hown;clear hown;go_wp2_with fail;refine(iv1 A N c0 b 6 A' M c' _ wr (by omega) hNc hc ((hr.below hbw).up hbw.size) (by decide) (by decide) (by omega) hMc hcm hq).mono ?_;rintro e w2 ⟨A3,K,c3,rfl,ho3,hc3,hm3,hb3⟩;have ho3':=own_base ho3 hbw.size;have hbz:=az hbw hb3;clear ho3 hb3;go_wp2;exact bodyPost_ret (v:=.tuple #[.slice A3 K c3,.int .i64 0]) (by simp[results,go_sem]) rfl ⟨A3,K,c3,rfl,ho3',hc3,hm3,hbz⟩
end
end Go.Proofs.YthjdpplgfdihoaaGreatDoor
