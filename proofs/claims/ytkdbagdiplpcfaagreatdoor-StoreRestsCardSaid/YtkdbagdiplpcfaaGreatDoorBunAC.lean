/- Some of the texts. No conditions. -/
import Derived.Test.YtkdbagdiplpcfaaGreatDoorBunAA
import Derived.Test.YtkdbagdiplpcfaaGreatDoorBunAB
import Derived.StillTailTactics
import Derived.Deep.CutBlock
import Derived.Lib.BytesEntry

set_option linter.unusedSimpArgs false
set_option linter.unusedVariables false
set_option maxRecDepth 100000
set_option maxHeartbeats 16000000
namespace Go.Proofs.YtkdbagdiplpcfaaGreatDoor
open Go.Proofs.Tryz Go Go.RowKit Go.Lib Go.Shelf
theorem dq5 (n:Nat) (Z:n<=1073741824) (w:World):
  Calls Tryz.prog 280 #[.slice none 0 0,.int .i64 (n:Int)] w fun e w'=>∃A c,e=.returned (.slice A 0 c)/\w'.ownsRow w.heap.size 5 1 (.slice A 0 c) 0 []/\Below w.heap.size w w':=by
 obtain⟨O,C,E,Q,H⟩:=info_parts fj1
 rcases ao_ n with J|J
 ·subst J
  have h:=Any8.slices_Grow_room Tryz.grow121 none 0 0 0 w l_ o_ o_ o_;refine Calls.mono h ?_;rintro e w' ⟨rfl,rfl⟩;exact⟨none,0,rfl,E_ _ _ _ _,Below.refl _ _⟩
 ·have h:=Any8.slices_Grow_grow Tryz.grow121 O (.int .u8 0) C E o_ none 0 0 n [] w l_ o_ (by rw[H];omega) o_ s_ (fun _=>rfl) (fun a h=>by cases h)
  refine Calls.mono h ?_;rintro e w' ⟨rfl,rfl⟩;have hg:=grownCap_ge w (0+n) 0 5;have I:=grownCap_le_maxLen w (0+n) 0 5 (by unfold maxLen;omega);refine⟨_,_,rfl,⟨by simp,.inr ⟨w.heap.size,_,_,rfl,y_ _,heap_alloc_new w.drew _,w_ _,I,?_,by simp⟩⟩,((Below.refl w.heap.size w).drew).alloc l_ _⟩;change _=grownCap w (0+n) 0 5 *1;have U:(Value.int IntKind.u8 0).cells.size=1:=rfl;simp only[b2_,Builtin.zeroCells,Array.size_map,Array.size_range,U];change 0+(0+n - 0)*1+(grownCap w (0+n) 0 5 - (0+n))*1=_;omega
theorem fk3 {ls:List (List UInt8)} {k:Nat} (C:k < ls.length):(ls.take (k+1)).flatten=(ls.take k).flatten++ls[k]:=by
 have h:=(aS_ C).symm;rw[h,bv_];simp
theorem sx4 {ls:List (List UInt8)} (k:Nat):(ls.take k).flatten.length<=ls.flatten.length:=by
 conv=>rhs;rw[<-al_ k ls,bv_,d_]
 omega
theorem dj4 (P:Option Addr) (n c:Nat) (ls:List (List UInt8)) (w:World) (hn:n<=1073741824) (E:ls.flatten.length<=1073741824) (hr:uw2 w.heap.size w P n ls):
  Calls Tryz.prog 249 #[.slice P n c] w fun e w'=>∃A' J,e=.returned (.slice A' ls.flatten.length J)/\
   w'.ownsRow w.heap.size 5 1 (.slice A' ls.flatten.length J) ls.flatten.length (bts ls.flatten)/\ls.flatten.length<=J/\J<=maxLen/\Below w.heap.size w w':=by
 obtain⟨i0,a7,a8,a9,a'⟩:=info_parts fj1;have c9:ls.length=n:=by obtain⟨_,_,h,_⟩:=hr;exact h
 obtain⟨F,hF⟩:=n_ ls.flatten.length;have HF:=H_ hF;have HB:=H_ E;rw[<-hF]at E ⊢;clear hF;go_enter Tryz.func249,Tryz.ntmps249;go_wp2
 go_loop [3,11] (fun x i=>∃k:Nat,k<=n/\i=.int .i64 (k:Int)/\x=.int .i64 (((ls.take k).flatten.length:Nat):Int)) (fun _ i=>n - (intOf i).toNat)
 case atStart=>exact⟨0,w_ _,rfl,rfl⟩
 case round=>
  obtain⟨k,hk,rfl,rfl⟩:=hrel
  by_cases b0:k < n
  ·obtain⟨a,A,O,J,hl,rfl,_,hc,b2,b3,Q⟩:=hr.at_ b0
   have ht:=fk3 hl;have H:=sx4 (ls:=ls) (k+1);have I:(ls.take (k+1)).flatten.length=(ls.take k).flatten.length+O:=by rw[ht,d_,Q.zk]
   have b5:(ls.take k).flatten.length+O<=1073741824:=by
    have h:ls.flatten.length<=1073741824:=HB;omega
   have E1:=H_ I;clear ht H I;generalize (ls.take k).flatten.length=L at *;have d5:((L:Int)+(O:Int) < 0)=False:=by simp;omega
   go_wp2
   go_round
   case rel=>exact⟨k+1,o_,by go_num,by have I:(ls.take (k+1)).flatten.length=L+O:=E1;rw[I];go_num⟩
   case measure=>simp[intOf];omega
  ·obtain rfl:k=n:=o_
   have I:(ls.take k).flatten.length=F:=by
    have h:F=ls.flatten.length:=HF;rw[g_ o_,h]
   rw[I];clear I;go_wp2_with fail;refine(dq5 F E w).mono ?_;rintro e w1 ⟨A1,c1,rfl,b6,H⟩;go_wp2
   go_loopw [6,27] (fun o i wr=>∃(j:Nat) (A':Option Addr) (M J:Nat),j<=k/\o=.slice A' M J/\i=.int .i64 (j:Int)/\wr.ownsRow w.heap.size 5 1 (.slice A' M J) M (bts (ls.take j).flatten)/\Below w.heap.size w wr) (fun _ i _=>k - (intOf i).toNat)
   case atStart=>exact⟨0,A1,0,c1,w_ _,rfl,rfl,by simpa [bts] using b6,H⟩
   case round=>
    obtain⟨j,A',M,J,hj,rfl,rfl,C,hb⟩:=hrel;have a0:M=(ls.take j).flatten.length:=by
     have h1:=C.1;rw[rq]at h1;omega
    by_cases b7:j < k
    ·obtain⟨a,A,O,c2,hl,rfl,d7,hc,b2,b3,Q⟩:=(hr.below hb).at_ b7
     have ht:=fk3 hl;have H:=sx4 (ls:=ls) (j+1);have b5:M+O<=1073741824:=by
      have h:ls.flatten.length<=1073741824:=HB;have I:(ls.take (j+1)).flatten.length=(ls.take j).flatten.length+O:=by rw[ht,d_,Q.zk]
      omega
     have U:bts (ls.take j).flatten++bts ls[j]=bts (ls.take (j+1)).flatten:=by rw[ht,xq1]
     have b8:=av1 ls[j];generalize bts ls[j]=X at *;generalize hY:bts (ls.take (j+1)).flatten=Y at *;generalize bts (ls.take j).flatten=Z at *;have HN:=H_ U;have HY:=H_ hY;clear hY a0 ht H U;go_wp2_with (at_builtin;refine iy ?_);refine bz (iq rfl (.tmp 31) (.tmp 32) _ rfl w.heap.size 5 i0 _ 1 1 Tryz.underlying150 a7 a8 a9 a' rfl o_ w hb hb.size _ M Z rfl C w.heap.size A O c2 X rfl Q b8 (M+O) Y rfl HN (by unfold maxLen;omega) o_ ?_);intro A3 c3 w3 a1 b9 _ e0 e2;go_wp2;go_roundw
     case rel=>exact⟨j+1,A3,M+O,c3,o_,rfl,by go_num,by have hY:bts (ls.take (j+1)).flatten=Y:=HY;rw[hY];exact a1,b9⟩
     case measure=>simp[intOf];omega
    ·obtain rfl:j=k:=o_
     have I:ls.take j=ls:=g_ o_;rw[I]at C a0;have h:F=ls.flatten.length:=HF;have b':M=F:=o_
     subst b';obtain⟨A4,c4,e4,h5,h6,_⟩:=gz C;injection e4 with e5 e6 e7;subst e5;subst e7;clear a0 h I;go_wp2;go_ret;exact⟨A',J,rfl,C,h5,h6,hb⟩
theorem ez6 (w:World) (e:TypeId) (I A2 J:Option Addr) (C E H c1 c2 c3:Nat) (O Q U:List UInt8) (h1:Row w.heap.size w I C 1 (bts O)) (h2:Row w.heap.size w A2 E 1 (bts Q)) (h3:Row w.heap.size w J H 1 (bts U))
  (Z:C<=c1) (k2:E<=c2) (k3:H<=c3) (m1:c1<=maxLen) (m2:c2<=maxLen) (m3:c3<=maxLen):
  uw2 (w.alloc (.cells #[.slice I C c1,.slice A2 E c2,.slice J H c3] e)).heap.size (w.alloc (.cells #[.slice I C c1,.slice A2 E c2,.slice J H c3] e)) (some ⟨w.heap.size,0,none⟩) 3 [O,Q,U]:=by
 refine⟨_,(Row.new w #[.slice I C c1,.slice A2 E c2,.slice J H c3] e (n:=3) (size:=1) rfl).up s_,rfl,fun i hi=>?_⟩
 rcases i with _|_|_|i
 ·exact⟨I,C,c1,rfl,Z,m1,(h1.alloc l_ _).up s_⟩
 ·exact⟨A2,E,c2,rfl,k2,m2,(h2.alloc l_ _).up s_⟩
 ·exact⟨J,H,c3,rfl,k3,m3,(h3.alloc l_ _).up s_⟩
 ·simp at hi
  omega
theorem hy5 (w:World) (e:TypeId) (k n:Nat) (E:k < 256) (H:n<=60000):Row (w.alloc (.cells #[.int .u8 (k:Int),.int .u8 ((n:Int) / 65536),.int .u8 ((n:Int) / 256),.int .u8 ((n:Int) % 256)] e)).heap.size
  (w.alloc (.cells #[.int .u8 (k:Int),.int .u8 ((n:Int) / 65536),.int .u8 ((n:Int) / 256),.int .u8 ((n:Int) % 256)] e)) (some ⟨w.heap.size,0,none⟩) 4 1 (bts (Fr.head k n)):=by
 have h:=(Row.new w #[.int .u8 (k:Int),.int .u8 ((n:Int) / 65536),.int .u8 ((n:Int) / 256),.int .u8 ((n:Int) % 256)] e (n:=4) (size:=1) rfl).up (B':=(w.alloc (.cells #[.int .u8 (k:Int),.int .u8 ((n:Int) / 65536),.int .u8 ((n:Int) / 256),.int .u8 ((n:Int) % 256)] e)).heap.size) s_;have C:bts (Fr.head k n)=[.int .u8 (k:Int),.int .u8 ((n:Int) / 65536),.int .u8 ((n:Int) / 256),.int .u8 ((n:Int) % 256)]:=by
  simp only[bts,Fr.head,Z_,bO_,UInt8.toNat_ofNat',Nat.reducePow];rw[show ((k % 256:Nat):Int)=(k:Int) from by omega,show ((n / 65536 % 256:Nat):Int)=(n:Int) / 65536 from by omega,show ((n / 256 % 256:Nat):Int)=(n:Int) / 256 from by omega,show ((n % 256:Nat):Int)=(n:Int) % 256 from by omega]
 rw[C];exact h
theorem lk1 (A:Option Addr) (N c:Nat) (l:List UInt8) (k:Nat) (B:Option Addr) (M d:Nat) (m:List UInt8) (w:World) (hN:N<=500000000) (a':N<=c) (hc:c<=maxLen) (hr:Row w.heap.size w A N 1 (bts l))
  (h1:1<=k) (h2:k<=100) (hM:M<=60000) (b0:M<=d) (hd:d<=maxLen) (hq:Row w.heap.size w B M 1 (bts m)):
  Calls Tryz.prog 197 #[.slice A N c,.int .i64 (k:Int),.slice B M d] w fun e w'=>∃A' K c',e=.returned (.tuple #[.slice A' K c',.int .i64 0])/\
   w'.ownsRow w.heap.size 5 1 (.slice A' K c') K (bts (l++Fr.put k m))/\K<=c'/\c'<=maxLen/\Below w.heap.size w w':=by
 have a1:((k:Int) < 1)=False:=by simp;omega
 have a2:((100:Int) < (k:Int))=False:=by simp;omega
 have a3:((60000:Int) < (M:Int))=False:=by simp;omega
 go_enter Tryz.func197,Tryz.ntmps197;go_wp2_with fail;refine(cz2 _ 4 4 (Fr.head k M) _ l_ (by decide) o_ (hy5 w _ k M o_ hM)).mono ?_;rintro e w1 ⟨A1,c1,rfl,U,b2,b3,J⟩;have C:=az (b_ w _) J;have Z:=Row.own U;clear U J;have b5:=(hr.below C).up C.size;have b6:=(hq.below C).up C.size;go_wp2_with fail;refine(cz2 B M d m w1 b0 hd o_ b6).mono ?_;rintro e w2 ⟨A2,c2,rfl,a0,b7,b8,E⟩;have H:=az C E;have a4:=Row.own a0;have b9:=(b5.below E).up E.size;have a5:=(Z.below E).up E.size;have J:=C;clear a0 E C;have I:[l,Crc.pz (Fr.head k M),Crc.pz m].flatten=l++Fr.put k m:=by simp[Fr.put,hq.zk]
 have d6:=hr.zk;have a6:(l++Fr.put k m).length<=1073741824:=by
  rw[d_,Fr.vk,hq.zk];omega
 have HL:=H_ a6;have HF:=H_ I;have O:=ez6 w2 150 A A1 A2 N (4+4) (M+4) c c1 c2 l _ _ b9 a5 a4 a' b2 b7 hc b3 b8;clear a6 I;go_wp2_with fail;refine(dj4 _ 3 3 _ _ o_ (by have h:[l,Crc.pz (Fr.head k M),Crc.pz m].flatten=l++Fr.put k m:=HF;rw[h];exact HL) O).mono ?_;rintro e w3 ⟨A3,c3,rfl,Q,a7,b',a8⟩;have I:[l,Crc.pz (Fr.head k M),Crc.pz m].flatten=l++Fr.put k m:=HF;rw[I]at Q a7 ⊢;have hb:=az (H.alloc H.size _) a8;have ho:=own_base Q (j_ H.size s_:w.heap.size<=(w2.alloc _).heap.size);generalize (l++Fr.put k m).length=K at *;clear Q a8 I;go_wp2;go_ret2;exact⟨A3,K,c3,rfl,ho,a7,b',hb⟩
theorem wy3 (l:List UInt8) (k:Nat) (C:k < (l.take 4).length):Fr.u l k=((l.take 4)[k]).toNat:=by
 have h:k < l.length:=by rw[v_]at C;omega
 simp[Fr.u,h]
theorem head4 {w:World} {B g:Nat} {l:List UInt8} (h:Row B w (some ⟨g,0,none⟩) 4 1 (bts (l.take 4))):∃J O Q U:UInt8,w.cell? ⟨g,0,none⟩=some (.int .u8 (J.toNat:Int))/\w.cell? ⟨g,1,none⟩=some (.int .u8 (O.toNat:Int))/\
  w.cell? ⟨g,2,none⟩=some (.int .u8 (Q.toNat:Int))/\w.cell? ⟨g,3,none⟩=some (.int .u8 (U.toNat:Int))/\Fr.u l 0=J.toNat/\Fr.size l=O.toNat *65536+Q.toNat *256+U.toNat:=by
 obtain⟨a0,Z,C,_,c0⟩:=h.bt (k:=0) o_;obtain⟨a1,h1,E,_,c1⟩:=h.bt (k:=1) o_;obtain⟨a2,h2,H,_,c2⟩:=h.bt (k:=2) o_;obtain⟨a3,h3,I,_,c3⟩:=h.bt (k:=3) o_;injection C with C;injection E with E;injection H with H;injection I with I;subst C;subst E;subst H;subst I;exact⟨_,_,_,_,c0,c1,c2,c3,wy3 l 0 Z,by rw[Fr.size,wy3 l 1 h1,wy3 l 2 h2,wy3 l 3 h3]⟩
theorem nv5 (m x k:Nat) (C:x < 2 ^ k) (h:m *2 ^ k+x < 9223372036854775808):bits .or .i64 ((m *2 ^ k:Nat):Int) (x:Int)=((m *2 ^ k+x:Nat):Int):=by
 have e:BitVec.ofInt 64 ((m *2 ^ k:Nat):Int)|||BitVec.ofInt 64 (x:Int)=BitVec.ofNat 64 (m *2 ^ k+x):=by
  rw[BitVec.ofInt_natCast,BitVec.ofInt_natCast];apply BitVec.eq_of_toNat_eq;rw[BitVec.toNat_or,BitVec.toNat_ofNat,BitVec.toNat_ofNat,BitVec.toNat_ofNat,aB_ o_,aB_ o_,aB_ o_,Nat.mul_comm m,cd_ C]
 change IntKind.i64.wrap (((BitVec.ofInt 64 ((m *2 ^ k:Nat):Int)|||BitVec.ofInt 64 (x:Int)).toNat:Nat):Int)=_;rw[e,BitVec.toNat_ofNat,aB_ o_,IntKind.wrap_i64];omega
theorem qv5 (a b c:UInt8):bits .or .i64 (bits .or .i64 ((a.toNat:Int)*65536) ((b.toNat:Int)*256)) (c.toNat:Int)=((a.toNat *65536+b.toNat *256+c.toNat:Nat):Int):=by
 have C:a.toNat < 256:=a.toNat_lt;have E:b.toNat < 256:=b.toNat_lt;have H:c.toNat < 256:=c.toNat_lt;have h1:=nv5 a.toNat (b.toNat *256) 16 o_ o_;have h2:=nv5 (a.toNat *256+b.toNat) c.toNat 8 o_ o_;rw[show ((a.toNat:Int)*65536)=((a.toNat *2 ^ 16:Nat):Int) from by omega,show ((b.toNat:Int)*256)=((b.toNat *256:Nat):Int) from by omega,h1,
  show a.toNat *2 ^ 16+b.toNat *256=(a.toNat *256+b.toNat)*2 ^ 8 from by omega,h2]
theorem ny4 (A:Option Addr) (N c:Nat) (l:List UInt8) (p:Nat) (w:World) (hN:N<=1073741824) (f5:N<=c) (hc:c<=maxLen) (hr:Row w.heap.size w A N 1 (bts l)) (hp:p<=N):
  Calls Tryz.prog 113 #[.slice A N c,.int .i64 (p:Int)] w fun e w'=>∃A' M c',e=.returned (.tuple #[.int .i64 ((Fr.take l p).1:Int),.slice A' M c',.int .i64 ((Fr.take l p).2.2.1:Int),.int .i64 ((Fr.take l p).2.2.2:Int)])/\
   w'.ownsRow w.heap.size 5 1 (.slice A' M c') M (bts (Fr.take l p).2.1)/\M<=c'/\c'<=maxLen/\Below w.heap.size w w':=by
 have f7:=hr.zk;have a1:((p:Int) < 0)=False:=by simp
 have a2:((N:Int) < (p:Int))=False:=by simp;omega
 obtain⟨res,a5⟩:∃r,Fr.take l p=r:=⟨_,rfl⟩;rw[a5];have O:=H_ a5;clear a5;obtain⟨A1,b3⟩:∃A1,(if c=p then A else Option.map (fun x=>x.add p) A)=A1:=⟨_,rfl⟩;have U:Row w.heap.size w A1 (N - p) 1 (bts (l.drop p)):=by
  have h:=hr.cut (A':=A1) hp (y_ N) (fun f8=>by rw[<-b3,if_neg o_,bb_]);rw[bb_,bb_,<-wj2,<-lx1]at h
  rwa [g_ (by rw[I_];omega)]at h
 by_cases h8:N - p < 8
 ·obtain rfl:res=(0,[],0,4):=by
   have E:Fr.take l p=res:=O;rw[<-E];unfold Fr.take;rw[if_pos o_]
  clear U;go_enter Tryz.func113,Tryz.ntmps113;go_wp2;exact bodyPost_ret (v:=.tuple #[.int .i64 0,.slice none 0 0,.int .i64 0,.int .i64 4]) (by simp[results,go_sem]) rfl ⟨none,0,0,rfl,E_ _ _ _ _,y_ _,w_ _,Below.refl _ _⟩
 ·obtain⟨a,rfl,f9⟩:=hr.some_ (by rw[rq];omega)
  have e0:some (a.add p)=A1:=by rw[<-b3,if_neg o_];rfl
  subst e0;clear b3;have a6:Row w.heap.size w (some (a.add p)) 8 1 (bts ((l.drop p).take 8)):=by
   have h:=U.pre (m:=8) o_
   rwa [bb_,<-lx1]at h
  have a9:((l.drop p).take 8).take 4=(l.drop p).take 4:=by rw[aV_];rfl
  have f':((N - p:Nat):Int) < 8↔False:=by simp;omega
  by_cases Z:Crc.pz ((l.drop p).take 4)=(l.drop p).take 8
  ·have a7:=dw3 (some (a.add p)) 8 (c - p) ((l.drop p).take 8) w o_ o_ o_ o_ a6 (by rw[show 8 - 4=4 from rfl,a9];simpa using Z)
   rw[show 8 - 4=4 from rfl,a9]at a7;go_enter Tryz.func113,Tryz.ntmps113;go_wp2_with fail;refine a7.mono ?_;rintro e w1 ⟨A2,c2,rfl,b7,g0,g1,H⟩;have C:=(U.below H).up H.size;have b5:=Row.own b7;clear a7;obtain⟨g,rfl⟩:∃g,A2=some ⟨g,0,none⟩:=by
    rcases b7.2 with ⟨_,h0⟩|⟨g,_,_,hv,_⟩
    ·cases h0
    ·injection hv with hv _ _
     exact⟨g,hv⟩
   obtain⟨x0,x1,x2,x3,d0,d1,d2,d3,hu,J⟩:=head4 b5;have HU:=H_ hu;have b1:=H_ J;have g4:x0.toNat < 256:=x0.toNat_lt;have g5:x1.toNat < 256:=x1.toNat_lt;have g6:x2.toNat < 256:=x2.toNat_lt;have g7:x3.toNat < 256:=x3.toNat_lt;clear hu J;have g8:=qv5 x1 x2 x3;have hz:x1.toNat *65536+x2.toNat *256+x3.toNat < 16777216:=o_
   generalize x1.toNat *65536+x2.toNat *256+x3.toNat=z at *;obtain⟨q,hq⟩:∃q,a.add p=q:=⟨_,rfl⟩;rw[hq]at U a6 C;have e9:((x0.toNat:Nat):Int)=(x0.toNat:Int):=rfl;generalize x0.toNat=k at *
   by_cases hf:k < 1\/100 < k\/60000 < z
   ·obtain rfl:res=(0,[],0,3):=by
     have E:Fr.take l p=res:=O;rw[<-E];have hu:Fr.u (l.drop p) 0=k:=HU;have J:Fr.size (l.drop p)=z:=b1;unfold Fr.take;rw[if_neg o_,if_neg (fun h=>h Z),hu,J,if_pos hf]
    by_cases f1:k < 1
    ·have d4:((k:Int) < 1):=o_
     go_wp2_with fail
     go_quiet (fail)
     go_wp2
     all_goals exact bodyPost_ret (v:=.tuple #[.int .i64 0,.slice none 0 0,.int .i64 0,.int .i64 3]) (by simp[results,go_sem]) rfl ⟨none,0,0,rfl,E_ _ _ _ _,y_ _,w_ _,below_drewN H _⟩
    ·have d4:((k:Int) < 1)=False:=by simp;omega
     by_cases f2:100 < k
     ·have d5:((100:Int) < (k:Int)):=o_
      go_wp2_with fail
      go_quiet (fail)
      go_wp2
      all_goals exact bodyPost_ret (v:=.tuple #[.int .i64 0,.slice none 0 0,.int .i64 0,.int .i64 3]) (by simp[results,go_sem]) rfl ⟨none,0,0,rfl,E_ _ _ _ _,y_ _,w_ _,below_drewN H _⟩
     ·have d5:((100:Int) < (k:Int))=False:=by simp;omega
      have e2:((60000:Int) < (z:Int)):=o_
      go_wp2_with fail
      go_quiet (fail)
      go_wp2
      all_goals exact bodyPost_ret (v:=.tuple #[.int .i64 0,.slice none 0 0,.int .i64 0,.int .i64 3]) (by simp[results,go_sem]) rfl ⟨none,0,0,rfl,E_ _ _ _ _,y_ _,w_ _,below_drewN H _⟩
   ·have d4:((k:Int) < 1)=False:=by simp;omega
    have d5:((100:Int) < (k:Int))=False:=by simp;omega
    have e2:((60000:Int) < (z:Int))=False:=by simp;omega
    by_cases ht:N - p - 8 < z+4
    ·obtain rfl:res=(0,[],0,4):=by
      have E:Fr.take l p=res:=O;rw[<-E];have hu:Fr.u (l.drop p) 0=k:=HU;have J:Fr.size (l.drop p)=z:=b1;unfold Fr.take;rw[if_neg o_,if_neg (fun h=>h Z),hu,J,if_neg hf,if_pos o_]
     have e3:(((N - p - 8:Nat):Int) < (z:Int)+4):=o_
     go_wp2_with fail
     go_quiet (fail)
     go_wp2
     all_goals exact bodyPost_ret (v:=.tuple #[.int .i64 0,.slice none 0 0,.int .i64 0,.int .i64 4]) (by simp[results,go_sem]) rfl ⟨none,0,0,rfl,E_ _ _ _ _,y_ _,w_ _,below_drewN H _⟩
    ·have e3:(((N - p - 8:Nat):Int) < (z:Int)+4)=False:=by simp;omega
     have a0:Row w1.heap.size w1 (some (q.add 8)) (N - p - 8) 1 (bts (l.drop (p+8))):=by
      have h:=C.cut (A':=some (q.add 8)) (k:=8) (m:=N - p) o_ l_ (fun _=>rfl);rw[bb_,bb_,<-wj2,<-lx1,aZ_]at h
      rwa [g_ (by rw[I_];omega)]at h
     have I:Row w1.heap.size w1 (some (q.add 8)) (z+4) 1 (bts ((l.drop (p+8)).take (z+4))):=by
      have h:=a0.pre (m:=z+4) o_
      rwa [bb_,<-lx1]at h
     have e8:q.add 8=⟨q.block,q.off+8,none⟩:=rfl;rw[e8]at I;have a4:((l.drop (p+8)).take (z+4)).take z=(l.drop (p+8)).take z:=by rw[aV_,a0_ o_]
     by_cases a8:Crc.pz ((l.drop (p+8)).take z)=(l.drop (p+8)).take (z+4)
     ·obtain rfl:res=(k,(l.drop (p+8)).take z,p+8+z+4,0):=by
       have E:Fr.take l p=res:=O;rw[<-E];have hu:Fr.u (l.drop p) 0=k:=HU;have J:Fr.size (l.drop p)=z:=b1;unfold Fr.take;rw[if_neg o_,if_neg (fun h=>h Z),hu,J,if_neg hf,if_neg o_,if_neg (fun h=>h a8)]
      have Q:=fun nq=>dw3 (some ⟨q.block,q.off+8,none⟩) (z+4) (c - p - 8) ((l.drop (p+8)).take (z+4)) (w1.drewN nq) o_ o_ o_ o_ (I.drewN nq) (by rw[bU_,a4];simpa using a8);rw[bU_,a4]at Q;clear Z a8 a9 a4;go_wp2_with fail
      go_quiet (fail)
      go_wp2_with fail;refine(Q _).mono ?_;rintro e w2 ⟨A4,c4,rfl,d6,e4,e6,a'⟩;have hb:=az (below_drewN H nq) a';have ho:=own_base d6 (H.size:w.heap.size<=(w1.drewN nq).heap.size);clear Q a' d6 I a0 C b5;go_wp2;refine bodyPost_ret (v:=.tuple #[.int .i64 (k:Int),.slice A4 z c4,.int .i64 ((p:Int)+4+4+(z:Int)+4),.int .i64 0]) (by simp[results,go_sem]) rfl ⟨A4,z,c4,?_,ho,e4,e6,hb⟩;have e5:(p:Int)+4+4+(z:Int)+4=((p+8+z+4:Nat):Int):=o_
      rw[e5];rfl
     ·obtain rfl:res=(0,[],0,5):=by
       have E:Fr.take l p=res:=O;rw[<-E];have hu:Fr.u (l.drop p) 0=k:=HU;have J:Fr.size (l.drop p)=z:=b1;unfold Fr.take;rw[if_neg o_,if_neg (fun h=>h Z),hu,J,if_neg hf,if_neg o_,if_pos a8]
      have Q:=fun nq=>uj3 (some ⟨q.block,q.off+8,none⟩) (z+4) (c - p - 8) ((l.drop (p+8)).take (z+4)) (w1.drewN nq) o_ o_ o_ o_ (I.drewN nq) (by rw[bU_,a4];simpa using a8);clear Z a8 a9 a4;go_wp2_with fail
      go_quiet (fail)
      go_wp2_with fail;refine(Q _).mono ?_;rintro e w2 ⟨rfl,a'⟩;have hb:=az (below_drewN H nq) a';clear Q a' I a0 C b5;go_wp2;exact bodyPost_ret (v:=.tuple #[.int .i64 0,.slice none 0 0,.int .i64 0,.int .i64 5]) (by simp[results,go_sem]) rfl ⟨none,0,0,rfl,E_ _ _ _ _,y_ _,w_ _,hb⟩
  ·have a7:=uj3 (some (a.add p)) 8 (c - p) ((l.drop p).take 8) w o_ o_ o_ o_ a6 (by rw[show 8 - 4=4 from rfl,a9];simpa using Z)
   obtain rfl:res=(0,[],0,5):=by
    have E:Fr.take l p=res:=O;rw[<-E];unfold Fr.take;rw[if_neg o_,if_pos Z]
   go_enter Tryz.func113,Tryz.ntmps113;go_wp2_with fail;refine a7.mono ?_;rintro e w1 ⟨rfl,H⟩;clear a7;go_wp2;exact bodyPost_ret (v:=.tuple #[.int .i64 0,.slice none 0 0,.int .i64 0,.int .i64 5]) (by simp[results,go_sem]) rfl ⟨none,0,0,rfl,E_ _ _ _ _,y_ _,w_ _,H⟩
def i64v (ks:List Nat):List Value:=ks.map fun k:Nat=>.int .i64 (k:Int)
theorem kq4 (ks:List Nat) (k:Nat):i64v ks++[.int .i64 (k:Int)]=i64v (ks++[k]):=by simp[i64v]
theorem zj4:(Tryz.prog.info? 3).map (fun i=>(i.zero,i.size,i.bytes))=some (some (.int .i64 0),1,8):=by kernel_rfl
variable {base:Nat} {w w':World} {kv bv:Value} {ks:List Nat} {bs:List (List UInt8)}
section
end
def bigs (ns:List Nat):Bool:=ns.any fun n=>decide (281474976710656 < n)
theorem kv4 (n:Nat) (w:World):Calls Tryz.prog 268 #[.int .u64 (n:Int)] w fun e w'=>e=.returned (.bool (decide ((281474976710656:Int) < (n:Int))))/\w=w':=by
 go_enter Tryz.func268,Tryz.ntmps268;go_wp2;go_ret;exact⟨rfl,rfl⟩
theorem mw4 {ns:List Nat} {k:Nat} (C:k < ns.length):bigs (ns.take (k+1))=(bigs (ns.take k)||decide (281474976710656 < ns[k])):=by
 have h:=(aS_ C).symm;unfold bigs;rw[h,bT_];simp
theorem py5 {ns:List Nat} {k:Nat} (C:k < ns.length) (h:281474976710656 < ns[k]):bigs ns=true:=by
 unfold bigs;rw[ay_];exact⟨ns[k],u_ C,by simpa using h⟩
theorem mq5 (A:Option Addr) (n c:Nat) (ns:List Nat) (w:World) (hn:n<=1000) (Q:Row w.heap.size w A n 1 (u64v ns)):
  Calls Tryz.prog 303 #[.slice A n c,.func (.func 268) #[] #[]] w fun e w'=>(∃i:Int,e=.returned (.int .i64 i)/\decide (0<=i)=bigs ns)/\w=w':=by
 have a1:=Q.bx6;go_enter Tryz.func303,Tryz.ntmps303;go_wp2
 go_loop [8] (fun i=>∃k:Nat,k<=n/\i=.int .i64 (k:Int)/\Hid (bigs (ns.take k)=false)) (fun i=>n - (intOf i).toNat)
 case atStart=>exact⟨0,w_ _,rfl,H_ rfl⟩
 case round=>
  obtain⟨k,hk,rfl,U⟩:=hrel
  by_cases J:k < n
  ·obtain⟨a,Z,rfl,_,hc⟩:=Q.un J
   have I:=mw4 Z;have E:=py5 Z;generalize ns[k]=x at *;have HT:=H_ I;clear I
   by_cases hx:281474976710656 < x
   ·have HO:=H_ (E hx)
    have O:(281474976710656:Int) < (x:Int):=o_
    clear E;go_wp2_with fail;refine(kv4 x w).mono ?_;rintro e w1 ⟨rfl,rfl⟩;go_wp2;go_ret;exact⟨⟨k,rfl,by have h:bigs ns=true:=HO;rw[h];simp⟩,rfl⟩
   ·have O:((281474976710656:Int) < (x:Int))=False:=by simp;omega
    clear E;go_wp2_with fail;refine(kv4 x w).mono ?_;rintro e w1 ⟨rfl,rfl⟩;go_wp2
    go_round
    case rel=>
     refine⟨k+1,o_,by go_num,H_ ?_⟩;have I:bigs (ns.take (k+1))=(bigs (ns.take k)||decide (281474976710656 < x)):=HT;have H:bigs (ns.take k)=false:=U;rw[I,H];simpa using hx
    case measure=>simp[intOf];omega
  ·have C:bigs ns=false:=by
    have H:bigs (ns.take k)=false:=U
    rwa [g_ o_]at H
   have HA:=H_ C;clear C;go_wp2;go_ret;exact⟨⟨-1,rfl,by have h:bigs ns=false:=HA;rw[h];rfl⟩,rfl⟩
theorem lk5 (A:Option Addr) (n c:Nat) (ns:List Nat) (w:World) (C:n<=1000) (E:Row w.heap.size w A n 1 (u64v ns)):
  Calls Tryz.prog 267 #[.slice A n c,.func (.func 268) #[] #[]] w fun e w'=>e=.returned (.bool (bigs ns))/\w=w':=by
 go_enter Tryz.func267,Tryz.ntmps267;go_wp2_with fail;refine(mq5 A n c ns w C E).mono ?_;rintro e w' ⟨⟨i,rfl,hi⟩,rfl⟩;have H:=H_ hi;clear hi;go_wp2;go_ret;refine⟨?_,rfl⟩;have hi:decide (0<=i)=bigs ns:=H;rw[<-hi];rfl
theorem tz2 (A:Option Addr) (n c:Nat) (ns:List Nat) (w:World) (C:n<=1000) (E:Row w.heap.size w A n 1 (u64v ns)):
  Calls Tryz.prog 226 #[.slice A n c] w fun e w'=>e=.returned (.bool (!bigs ns))/\w=w':=by
 go_enter Tryz.func226,Tryz.ntmps226;go_wp2_with fail;refine(lk5 A n c ns w C E).mono ?_;rintro e w' ⟨rfl,rfl⟩;go_wp2;go_ret;exact⟨rfl,rfl⟩
theorem ay5 (g t:Nat):(⟨g,0,none⟩:Addr).add t=⟨g,t,none⟩:=by
 unfold Addr.add;split
 ·subst_vars;rfl
 ·simp
theorem uv2 (w:World) (e:TypeId) (cs:Array Value) (ns:List Nat) (n:Nat) (h:cs.toList=u64v ns) (C:ns.length=n):Row (w.alloc (.cells cs e)).heap.size (w.alloc (.cells cs e)) (some ⟨w.heap.size,0,none⟩) n 1 (u64v ns):=by
 have h1:=(Row.new w cs e (n:=n) (size:=1) (by rw[<-Array.length_toList,h];simp[u64v,C])).up (B':=(w.alloc (.cells cs e)).heap.size) s_
 rwa [h]at h1
section
end
theorem qv1 {a:Nat} (h:a≠0) (b:Nat):orElse a b=a:=if_neg h
section
end
structure Bv where
 g:Nat
 f:Nat
 c:Nat
 a:Nat
 l:Nat
section
end
section
theorem fk1 {w:World} {base size n c:Nat} {e:TypeId} {a:Addr} {xs:List Value} (h:w.ownsRow base e size (.slice (some a) n c) n xs):
  ∃g cur,a=⟨g,0,none⟩/\base<=g/\BoxO w e g cur/\cur.length=c *size/\n<=c/\c<=maxLen/\cur.take (n *size)=xs:=by
 rcases h.2 with ⟨C,_⟩|⟨g,cap,cur,h1,E,H,I,J,hs,O⟩
 ·cases C
 ·injection h1 with h2 h3 h4
  injection h2 with h2;subst h2 h4;exact⟨g,cur.toList,rfl,E,by simpa [BoxO] using H,by simpa using hs,I,J,O⟩
theorem jv4 {w:World} {base size n c g:Nat} {e:TypeId} {cur:List Value} (H:base<=g) (h:BoxO w e g cur) (C:cur.length=c *size) (E:n<=c) (I:c<=maxLen):w.ownsRow base e size (.slice (some ⟨g,0,none⟩) n c) n (cur.take (n *size)):=
 ⟨by rw[v_,C];exact a0_ (aU_ _ E),.inr ⟨g,c,cur.toArray,rfl,H,h,E,I,by simpa using C,by simp⟩⟩
theorem iy5 {w:World} {base size n c:Nat} {e:TypeId} {xs:List Value} (h:w.ownsRow base e size (.slice none n c) n xs):n=0/\c=0:=by
 rcases h.2 with ⟨C,_⟩|⟨g,cap,cur,h1,_⟩
 ·injection C with _ h1 h2
  exact⟨h1,h2⟩
 ·cases h1
namespace Crc
end Crc
namespace Crc
end Crc
namespace Crc
end Crc
theorem fw3 (l:List UInt8):Lib.bytesOf (l.map fun c=>(c.toNat:Int))=l:=by
 unfold Lib.bytesOf;rw[aK_]
 conv=>rhs;rw[<-List.map_id l]
 apply List.map_congr_left;intro c _;simp
theorem ov1 {P:Program} {B n:Nat} {w:World} {A:Option Addr} {l:List UInt8} (h:Row B w A n 1 (bts l)) (c:Nat):(Extern.Bytes.bytesOf (.slice A n c)).run P w=.ok ⟨l.toArray⟩ w:=by
 have I:=h.zk
 rcases A with _|a
 ·have O:n=0:=by
   rcases ao_ n with C|C
   ·exact C
   ·obtain⟨_,_,E,_⟩:=h.bt C
    cases E
  subst O;obtain rfl:=bc_ I;rfl
 ·have J:=Lib.run_loadBytesX (P:=P) w (l.map fun c=>(c.toNat:Int)) a .empty (fun j x hj=>by
   have Q:j < l.length:=by simpa using (J_.1 hj).1
   obtain⟨U,H,E,_,Z⟩:=h.bt (show j < n by omega);obtain rfl:a=U:=by simpa using E
   rw[Z];rw[br_,h_ H]at hj;simpa using hj)
  rw[fw3,F_,I]at J;show (Extern.Bytes.loadBytes a n .empty).run P w=_
  rw[J]
  congr 1
  apply ByteArray.ext;show (#[]:Array UInt8)++l.toArray=l.toArray
  simp
theorem ay2 {P:Program} {B B' n m:Nat} {w:World} {A A':Option Addr} {l C:List UInt8} (h:Row B w A n 1 (bts l)) (E:Row B' w A' m 1 (bts C)) (c d:Nat):
  (Extern.BytealgCompare.compare #[.slice A n c,.slice A' m d]).run P w=.ok (.int .i64 (Lib.compareBytes l C)) w:=by
 change Sem.run P (do pure (goInt (Extern.BytealgCompare.cmp (<-Extern.Bytes.bytesOf (.slice A n c)) (<-Extern.Bytes.bytesOf (.slice A' m d))))) w=_;simp only[Sem.run_bind,ov1 h,ov1 E,Sem.run_pure,Result.andThen];rw[Lib.cmp_eq];rfl
theorem gv3 {B B' n m c d:Nat} {A A':Option Addr} {l C:List UInt8} {w:World} (h:Row B w A n 1 (bts l)) (E:Row B' w A' m 1 (bts C)):
  (callFunc 219 #[.slice A n c,.slice A' m d]).run Tryz.prog w=.ok (.value (.int .i64 (Lib.compareBytes l C))) w:=by
 rw[run_callFunc_extern Tryz.func219 (by kernel_rfl) (by kernel_rfl) (by kernel_rfl) (e:=Extern.BytealgCompare.compare) (by kernel_rfl),ay2 h E c d];rfl
theorem iq2 {B B' n m c d:Nat} {A A':Option Addr} {l C:List UInt8} (w:World) (h:Row B w A n 1 (bts l)) (E:Row B' w A' m 1 (bts C)):
  Calls Tryz.prog 164 #[.slice A n c,.slice A' m d] w fun e w'=>e=.returned (.int .i64 (Lib.compareBytes l C))/\w=w':=by
 have H:=gv3 (c:=c) (d:=d) h E;go_enter Tryz.func164,Tryz.ntmps164;go_wp2;go_ret;exact⟨rfl,rfl⟩
structure Hd where
 num:Int
 level:Int
 first:List UInt8
 last:List UInt8
 len:Int
def Hd.touch (a b:Hd):Bool:=a.len !=0&&b.len !=0&&decide (Lib.compareBytes a.first b.last<=0) &&decide (Lib.compareBytes b.first a.last<=0)
theorem sw4 (a b:Hd) (O A2 H Q:Option Addr) (U c1 I c2 J d1 m2 d2:Nat) (w:World)
  (h1:Row w.heap.size w O U 1 (bts a.first)) (h2:Row w.heap.size w A2 I 1 (bts a.last)) (h3:Row w.heap.size w H J 1 (bts b.first)) (h4:Row w.heap.size w Q m2 1 (bts b.last)):
  Calls Tryz.prog 85 #[.agg #[.int .i64 a.num,.int .i64 a.level,.slice O U c1,.slice A2 I c2,.int .i64 a.len],.agg #[.int .i64 b.num,.int .i64 b.level,.slice H J d1,.slice Q m2 d2,.int .i64 b.len]] w fun e w'=>e=.returned (.bool (a.touch b))/\Below w.heap.size w w':=by
 go_enter Tryz.func85,Tryz.ntmps85
 by_cases Z:a.len=0
 ·go_wp2
  go_ret;exact⟨mq1 (by simp[Hd.touch,Z]),(b_ _ _).alloc s_ _⟩
 ·by_cases hb:b.len=0
  ·go_wp2
   go_ret;exact⟨mq1 (by simp[Hd.touch,hb]),(b_ _ _).alloc s_ _⟩
  ·go_wp2_with fail
   have E:Below w.heap.size w ((w.alloc (.cells #[.int .i64 a.num,.int .i64 a.level,.slice O U c1,.slice A2 I c2,.int .i64 a.len] 152)).alloc (.cells #[.int .i64 b.num,.int .i64 b.level,.slice H J d1,.slice Q m2 d2,.int .i64 b.len] 152)):=(b_ _ _).alloc s_ _;refine(iq2 _ (h1.below E) (h4.below E)).mono ?_;rintro e w1 ⟨rfl,C⟩;rw[C]at E;have q1:w1.cell? ⟨w.heap.size+1,2,none⟩=some (.slice H J d1):=by rw[<-C,World.cell?_alloc_at _ _ _ _ s_];rfl
   have q2:w1.cell? ⟨w.heap.size,3,none⟩=some (.slice A2 I c2):=by rw[<-C,World.cell?_alloc_past _ _ _ s_,World.cell?_alloc_at _ _ _ _ rfl];rfl
   clear C
   by_cases hx:Lib.compareBytes a.first b.last<=0
   ·go_wp2_with fail
    refine(iq2 _ (h3.below E) (h2.below E)).mono ?_;rintro e w2 ⟨rfl,rfl⟩;go_wp2;go_ret;exact⟨mq1 (by simp[Hd.touch,hx]),E⟩
   ·go_wp2
    go_ret;exact⟨mq1 (by simp[Hd.touch,Z,hb];omega),E⟩
structure Hvf where
 hd:Hd
 fa:Option Addr
 fn:Nat
 fc:Nat
 la:Option Addr
 ln:Nat
 lc:Nat
def Hvf.cs (h:Hvf):List Value:=[.int .i64 h.hd.num,.int .i64 h.hd.level,.slice h.fa h.fn h.fc,.slice h.la h.ln h.lc,.int .i64 h.hd.len]
structure Hvf.ok (h:Hvf) (B:Nat) (w:World):Prop where
 first:Row B w h.fa h.fn 1 (bts h.hd.first)
 last:Row B w h.la h.ln 1 (bts h.hd.last)
theorem Hvf.ok.below {h:Hvf} {B:Nat} {w w':World} (k:h.ok B w) (C:Below B w w'):h.ok B w':=⟨k.first.below C,k.last.below C⟩
theorem Hvf.ok.up {h:Hvf} {B B':Nat} {w:World} (k:h.ok B w) (C:B<=B'):h.ok B' w:=⟨k.first.up C,k.last.up C⟩
theorem Hvf.ok.keep {h:Hvf} {B:Nat} {w w':World} (k:h.ok B w) (C:∀p:Addr,p.block < B->w'.cell? p=w.cell? p):h.ok B w':=⟨k.first.keep C,k.last.keep C⟩
structure lj1 (B:Nat) (w:World) (A:Option Addr) (n:Nat) (hs:List Hvf):Prop where
 len:hs.length=n
 row:Row B w A n 5 (hs.flatMap Hvf.cs)
 ok:∀h∈hs,h.ok B w
variable {B B' n:Nat} {w w':World} {A:Option Addr} {hs:List Hvf}
theorem lj1.below (h:lj1 B w A n hs) (C:Below B w w'):lj1 B w' A n hs:=⟨h.len,h.row.below C,fun x E=>(h.ok x E).below C⟩
theorem lj1.up (h:lj1 B w A n hs) (C:B<=B'):lj1 B' w A n hs:=⟨h.len,h.row.up C,fun x E=>(h.ok x E).up C⟩
theorem flat_get:∀(hs:List Hvf) (k j:Nat) (C:k < hs.length),j < 5->(hs.flatMap Hvf.cs)[k *5+j]?=(hs[k].cs)[j]?
 |h::t,0,j,_,hj=>by
  rw[S_,O_ (by simp[Hvf.cs];omega)];simp
 |h::t,k+1,j,C,hj=>by
  rw[S_,aj_ (by simp[Hvf.cs];omega)];have:(k+1)*5+j - h.cs.length=k *5+j:=by simp[Hvf.cs];omega
  rw[this,flat_get t k j (by simpa using C) hj];simp
theorem flat_length (hs:List Hvf):(hs.flatMap Hvf.cs).length=hs.length *5:=by
 induction hs with
 |nil=>rfl
 |cons h t C=>rw[S_,d_,C];simp[Hvf.cs];omega
structure HAt (B:Nat) (w:World) (a:Addr) (k:Nat) (h:Hvf):Prop where
 blk:a.block < B
 c0:w.cell? (a.add (k *5))=some (.int .i64 h.hd.num)
 c1:w.cell? ⟨(a.add (k *5)).block,(a.add (k *5)).off+1,none⟩=some (.int .i64 h.hd.level)
 c2:w.cell? ⟨(a.add (k *5)).block,(a.add (k *5)).off+2,none⟩=some (.slice h.fa h.fn h.fc)
 c3:w.cell? ⟨(a.add (k *5)).block,(a.add (k *5)).off+3,none⟩=some (.slice h.la h.ln h.lc)
 c4:w.cell? ⟨(a.add (k *5)).block,(a.add (k *5)).off+4,none⟩=some (.int .i64 h.hd.len)
theorem zx5 (a:Addr) (k:Nat) {j:Nat} (hj:0 < j):a.add (k+j)=⟨(a.add k).block,(a.add k).off+j,none⟩:=by
 rw[<-vj1,Addr.add,if_neg o_]
structure HRow (B:Nat) (w:World) (A:Option Addr) (n:Nat) (hs:List Hvf):Prop where
 len:hs.length=n
 row:Row B w A n 5 (hs.flatMap Hvf.cs)
theorem lj1.hrow (h:lj1 B w A n hs):HRow B w A n hs:=⟨h.len,h.row⟩
theorem HRow.below (h:HRow B w A n hs) (C:Below B w w'):HRow B w' A n hs:=⟨h.len,h.row.below C⟩
theorem HRow.up (h:HRow B w A n hs) (C:B<=B'):HRow B' w A n hs:=⟨h.len,h.row.up C⟩
theorem HRow.at_ (h:HRow B w A n hs) {k:Nat} (Z:k < n):∃a,∃E:k < hs.length,A=some a/\HAt B w a k hs[k]:=by
 have E:k < hs.length:=by have:=h.len;omega
 have I:=flat_length hs;have g:∀j v,j < 5->hs[k].cs[j]?=some v->∃a,A=some a/\a.block < B/\w.cell? (a.add (k *5+j))=some v:=by
  intro j v hj H;have J:k *5+j < (hs.flatMap Hvf.cs).length:=o_
  obtain⟨a,e,b,c⟩:=h.row.cell (k *5+j) J;refine⟨a,e,b,c.trans ?_⟩;rw[<-h_ J,flat_get hs k j E hj,H]
 obtain⟨a,rfl,O,c0⟩:=g 0 _ o_ rfl;have C:∀j v,0 < j->j < 5->hs[k].cs[j]?=some v->w.cell? ⟨(a.add (k *5)).block,(a.add (k *5)).off+j,none⟩=some v:=by
  intro j v Q hj H;obtain⟨U,e,_,c⟩:=g j v hj H;obtain rfl:a=U:=by simpa using e
  rwa [zx5 a _ Q]at c
 exact⟨a,E,rfl,⟨O,c0,C 1 _ o_ o_ rfl,C 2 _ o_ o_ rfl,C 3 _ o_ o_ rfl,C 4 _ o_ o_ rfl⟩⟩
theorem lj1.at_ (h:lj1 B w A n hs) {k:Nat} (H:k < n):∃a,∃C:k < hs.length,A=some a/\HAt B w a k hs[k]/\hs[k].ok B w:=by
 obtain⟨a,C,e,E⟩:=h.hrow.at_ H;exact⟨a,C,e,E,h.ok _ (u_ C)⟩
end
def Hd.amt (h:Hd):Nat:=(min (max h.len 0) 2001).toNat
def cntL (lv:Int) (l:List Hvf):Nat:=(l.filter fun h=>h.hd.level==lv).length
def itmL (lv:Int) (l:List Hvf):Nat:=((l.filter fun h=>h.hd.level==lv).map fun h=>h.hd.amt).sum
def dj2 (l:List Hvf) (lv:Int):Bool:=if lv=0 then decide (4<=cntL 0 l) else decide ((if lv=1 then 200 else 2000) < itmL lv l)
theorem pq5 (h:Hd):h.amt<=2001:=by unfold Hd.amt;omega
theorem cy6 (h:Hd):((h.amt:Nat):Int)=min (max h.len 0) 2001:=by unfold Hd.amt;omega
theorem dx2 {α:Type} {l:List α} {k:Nat} (C:k < l.length):l.take (k+1)=l.take k++[l[k]]:=r_ C
theorem wj4 (lv:Int) (l:List Hvf) (x:Hvf):cntL lv (l++[x])=cntL lv l+if x.hd.level=lv then 1 else 0:=by
 unfold cntL;rw[aQ_]
 by_cases h:x.hd.level=lv<;>simp[h]
theorem vq4 (lv:Int) (l:List Hvf) (x:Hvf):itmL lv (l++[x])=itmL lv l+if x.hd.level=lv then x.hd.amt else 0:=by
 unfold itmL;rw[aQ_]
 by_cases h:x.hd.level=lv<;>simp[h]
theorem wz5 (lv:Int) (l:List Hvf):cntL lv l<=l.length:=L_ _ _
theorem ik3 (m:Nat):∀l:List Nat,(∀x∈l,x<=m)->l.sum<=l.length *m
 |[],_=>by simp
 |x::l,h=>by
  have h1:=ik3 m l (fun y C=>h y (e_ _ C));have h2:=h x i_;rw[aI_,q_,bu_,Nat.one_mul];omega
theorem xy5 (lv:Int) (l:List Hvf):itmL lv l<=l.length *2001:=by
 unfold itmL;refine j_ (ik3 2001 _ ?_) (aU_ _ (by rw[F_];exact L_ _ _));intro x C;obtain⟨y,_,rfl⟩:=W_.1 C;exact pq5 _
theorem zj1 (w:World):Calls Tryz.prog 218 #[] w fun e w'=>e=.returned (.agg #[.int .i64 0,.int .i64 200,.int .i64 2000])/\Below w.heap.size w w':=by
 go_enter Tryz.func218,Tryz.ntmps218;go_wp2;exact bodyPost_ret (v:=.agg #[.int .i64 0,.int .i64 200,.int .i64 2000]) (by simp[results,go_sem]) rfl ⟨rfl,b_ _ _⟩
theorem vy3 (lv:Int) (a4:0<=lv) (a1:lv<=2) (hs:List Hvf) (A:Option Addr) (n c:Nat) (hn:n<=1000) (w:World) (h:HRow w.heap.size w A n hs):
  Calls Tryz.prog 163 #[.slice A n c,.int .i64 lv] w fun e w'=>e=.returned (.bool (dj2 hs lv))/\Below w.heap.size w w':=by
 go_enter Tryz.func163,Tryz.ntmps163;go_wp2
 go_loopw [5,6,11] (fun x y i wr=>∃k:Nat,k<=n/\x=.int .i64 ((cntL lv (hs.take k):Nat):Int)/\y=.int .i64 ((itmL lv (hs.take k):Nat):Int)/\i=.int .i64 (k:Int)/\Below w.heap.size w wr) (fun _ _ i _=>n - (intOf i).toNat)
 case atStart=>exact⟨0,w_ _,by simp[cntL],by simp[itmL],rfl,Below.refl _ _⟩
 case round=>
  obtain⟨k,hk,rfl,rfl,rfl,E⟩:=hrel
  by_cases H:k < n
  ·obtain⟨a,hl,rfl,Q⟩:=(h.below E).at_ H
   have I:=wj4 lv (hs.take k) hs[k];have J:=vq4 lv (hs.take k) hs[k];rw[<-dx2 hl]at I J;have b1:=j_ (wz5 lv (hs.take k)) (List.length_take_le _ _);have b2:=j_ (xy5 lv (hs.take k)) (aU_ _ (List.length_take_le _ _));generalize hs[k]=x at *;generalize itmL lv (hs.take k)=Y at *;generalize cntL lv (hs.take k)=X at *;obtain⟨a5,c0,c1,c2,c3,c4⟩:=Q
   by_cases U:x.hd.level=lv
   ·subst U
    rw[if_pos rfl]at I J;have Z:=H_ I;have E2:=H_ J;clear I J;have b3:=pq5 x.hd;have b4:=cy6 x.hd;have b5:0<=min (max x.hd.len 0) 2001:=o_
    have b6:min (max x.hd.len 0) 2001<=2001:=o_
    have B4:=H_ b4;clear b4;have i2:∀w,(Instr.index 280 (.agg #[.int .i64 0,.int .i64 200,.int .i64 2000]) (.int .i64 2)).run Tryz.prog w=.ok (.int .i64 2000) w:=fun _=>by kernel_rfl
    go_wp2_with fail
    go_region_with (go_at_call 218;refine(zj1 _).mono ?_;rintro e O ⟨rfl,C⟩;have hq:O.cell? ⟨wr.heap.size,4,none⟩=some (.int .i64 x.hd.len):=by(rw[C.cell s_];rw[cq_,World.cell?_alloc_at _ _ _ _ rfl];rfl))
    all_goals
     have hz:Below w.heap.size w O:=az (ak (E.alloc E.size _)) C;clear C hq;go_wp2;go_roundw
     case rel=>exact⟨k+1,H,by rw[Z.out];rfl,by rw[E2.out,Int.natCast_add,B4.out],by go_num,hz⟩
     case measure=>simp[intOf];omega
   ·have a':(x.hd.level==lv)=false:=beq_eq_false_iff_ne.2 U
    rw[if_neg U]at I J;have Z:=H_ I;have E2:=H_ J;clear I J;go_wp2_with fail;go_roundw
    case rel=>exact⟨k+1,H,by rw[Z.out];rfl,by rw[E2.out];rfl,by go_num,E.alloc E.size _⟩
    case measure=>simp[intOf];omega
  ·have e:k=n:=o_
   subst e;have hl:=h.len;rw[g_ o_];have i1:∀w,(Instr.index 280 (.agg #[.int .i64 0,.int .i64 200,.int .i64 2000]) (.int .i64 1)).run Tryz.prog w=.ok (.int .i64 200) w:=fun _=>by kernel_rfl
   have i2:∀w,(Instr.index 280 (.agg #[.int .i64 0,.int .i64 200,.int .i64 2000]) (.int .i64 2)).run Tryz.prog w=.ok (.int .i64 2000) w:=fun _=>by kernel_rfl
   rcases (by omega:lv=0\/lv=1\/lv=2) with rfl|rfl|rfl
   ·go_wp2
    go_ret;exact⟨mq1 (by simp[dj2];omega),E⟩
   ·go_wp2_with fail
    refine(zj1 _).mono ?_;rintro e O ⟨rfl,C⟩;go_wp2;go_ret;exact⟨mq1 (by simp[dj2];omega),E.trans (C.mono E.size)⟩
   ·go_wp2_with fail
    refine(zj1 _).mono ?_;rintro e O ⟨rfl,C⟩;go_wp2;go_ret;exact⟨mq1 (by simp[dj2];omega),E.trans (C.mono E.size)⟩
def ints (l:List Int):List Value:=l.map (Value.int .i64)
theorem rw1 (a b:List Int):ints (a++b)=ints a++ints b:=by simp[ints]
theorem vw2 (l:List Int):∀u∈ints l,u.oneCell'=true:=by
 intro u C;simp only[ints,W_]at C;obtain⟨c,_,rfl⟩:=C;rfl
def mv1 (l:List Hvf) (k:Nat):List Int:=((List.range k).filter fun(i:Nat)=>dj2 l (i:Int)).map fun(i:Nat)=>(i:Int)
theorem yz3 (l:List Hvf) (k:Nat):mv1 l (k+1)=mv1 l k++if dj2 l (k:Int)=true then [(k:Int)] else []:=by
 unfold mv1;rw[cw_,aQ_,am_]
 congr 1
 cases h:dj2 l (k:Int) <;>simp[h]
theorem fq5 (l:List Hvf) (k:Nat):(mv1 l k).length<=k:=by
 unfold mv1;rw[F_];exact j_ (L_ _ _) (by rw[List.length_range];exact y_ _)
def Gives (l:List Int) (w:World) (v:Value):Prop:=∃A c,v=.slice A l.length c/\l.length<=c/\c<=maxLen/\Row w.heap.size w A l.length 1 (ints l)
def Owns (base:Nat) (l:List Int) (w:World) (v:Value):Prop:=w.ownsRow base 3 1 v l.length (ints l)
theorem Owns.gives {base:Nat} {l:List Int} {w:World} {v:Value} (h:Owns base l w v):Gives l w v:=by
 obtain⟨A,c,rfl,h1,h2,_⟩:=gz h;exact⟨A,c,rfl,h1,h2,Row.own h⟩
theorem nx5:(Tryz.prog.info? 3).map (fun i=>(i.zero,i.size,i.bytes))=some (some (.int .i64 0),1,8):=by kernel_rfl
theorem ax3 (hs:List Hvf) (A:Option Addr) (n c:Nat) (hn:n<=1000) (w:World) (h:HRow w.heap.size w A n hs):
  Calls Tryz.prog 81 #[.slice A n c] w fun e w'=>(∃v,e=.returned v/\Gives (mv1 hs 3) w' v)/\Below w.heap.size w w':=by
 obtain⟨i0,Q,U,Z,a0⟩:=info_parts nx5;go_enter Tryz.func81,Tryz.ntmps81;go_wp2
 go_loopw [3,5] (fun v i wr=>∃k:Nat,k<=3/\i=.int .i64 (k:Int)/\Owns w.heap.size (mv1 hs k) wr v/\Below w.heap.size w wr) (fun _ i _=>3 - (intOf i).toNat)
 case atStart=>exact⟨0,w_ _,rfl,E_ w w.heap.size 3 1,Below.refl _ _⟩
 case round=>
  obtain⟨k,hk,rfl,J,E⟩:=hrel;obtain⟨A1,c1,rfl,b2,b3,-⟩:=gz J
  by_cases H:k < 3
  ·have a8:(k:Int) < 3:=o_
   have e1:=yz3 hs k;have b5:=fq5 hs k;have hh:=(h.below E).up E.size;have E1:=H_ e1;clear e1
   cases O:dj2 hs (k:Int)
   ·have I:=H_ O
    clear O;go_wp2_with fail;refine(vy3 (k:Int) o_ o_ hs A n c hn _ hh).mono ?_;rintro e w1 ⟨rfl,C⟩;rw[I.out];go_wp2;go_roundw
    case rel=>exact⟨k+1,H,by go_num,by rw[E1.out,I.out,if_neg (by decide),ak_];exact own_below J C,az E C⟩
    case measure=>simp[intOf];omega
   ·have I:=H_ O
    clear O;go_wp2_with fail;refine(vy3 (k:Int) o_ o_ hs A n c hn _ hh).mono ?_;rintro e w1 ⟨rfl,C⟩;rw[I.out];have a2:=own_below J C;have hz:=az E C;go_wp2_with (at_builtin;refine iy ?_);refine bz (iq rfl (.tmp 11) (.tmp 13) _ rfl w.heap.size 3 i0 _ 1 8 Tryz.underlying30 Q U Z a0 rfl o_ w (hz.alloc hz.size _) (by have:=hz.size;simp;omega) _ _ _ rfl (a2.alloc _) (w1.heap.size+1) _ 1 1 (ints [(k:Int)]) rfl (Row.new w1 _ _ rfl) (vw2 _) _ _ rfl rfl (by unfold maxLen;omega) o_ ?_);intro A3 c3 w3 a5 a6 _ b6 b7;go_wp2;go_roundw
    case rel=>exact⟨k+1,H,by go_num,by rw[E1.out,I.out];unfold Owns;rw[if_pos rfl,rw1,d_];exact a5,a6⟩
    case measure=>simp[intOf];omega
  ·obtain rfl:k=3:=o_
   go_wp2;go_ret;exact⟨⟨_,rfl,J.gives⟩,E⟩
def hv0:Hvf:=⟨⟨0,0,[],[],0⟩,none,0,0,none,0,0⟩
def uy (hs:List Hvf) (lv:Int):Nat:=hs.findIdx fun h=>h.hd.level==lv
def qw1 (hs:List Hvf) (lv:Int) (i:Nat):Bool:=(hs.getD i hv0).hd.level==lv&&(lv==0||i==uy hs lv)
theorem getD_lt {α:Type} (l:List α) (d:α) {i:Nat} (h:i < l.length):l.getD i d=l[i]:=by simp[List.getD,h_ h]
theorem nk5 (x:Hvf) (p:Addr) (lv:Int) (w:World) (C:w.cell? p=some (.int .i64 lv)):
  Calls Tryz.prog 83 #[.agg #[.int .i64 x.hd.num,.int .i64 x.hd.level,.slice x.fa x.fn x.fc,.slice x.la x.ln x.lc,.int .i64 x.hd.len],.pointer (some p)] w fun e w'=>e=.returned (.bool (x.hd.level==lv))/\Below w.heap.size w w':=by
 have E:∀o,(w.alloc o).cell? p=some (.int .i64 lv):=fun o=>(R_ w o p (M_ w p C)).trans C;go_enter Tryz.func83,Tryz.ntmps83;go_wp2;go_ret;exact⟨rfl,b_ _ _⟩
theorem pz1 (hs:List Hvf) (A:Option Addr) (n c:Nat) (J O Q:Addr) (lv:Int) (i:Nat) (w:World) (h:lj1 w.heap.size w A n hs) (hi:i < n)
  (h1:w.cell? J=some (.slice A n c)) (h2:w.cell? O=some (.int .i64 lv)) (h3:w.cell? Q=some (.int .i64 (uy hs lv:Int))) (hf:uy hs lv < n):
  Calls Tryz.prog 84 #[.int .i64 (i:Int),.pointer (some J),.pointer (some O),.pointer (some Q)] w fun e w'=>e=.returned (.bool (qw1 hs lv i))/\Below w.heap.size w w':=by
 obtain⟨a,hl,rfl,⟨a2,c0,c1,c2,c3,c4⟩,a4⟩:=h.at_ hi;have U:=getD_lt hs hv0 hl;have H:=H_ U;clear U;generalize hs[i]=x at *;have fin:∀b k,b=qw1 hs lv i->Ending.returned (.bool b)=Ending.returned (.bool (qw1 hs lv i))/\Below w.heap.size w (w.drewN k):=fun b k e=>⟨by rw[e],below_drewN b0_ k⟩
 by_cases C:x.hd.level=lv
 ·by_cases E:lv=0
  ·have r:true=qw1 hs lv i:=by unfold qw1;rw[H.out,C,E];rfl
   have R:=H_ r;clear r;subst C;rw[E]at c1 h2;have E2:=H_ E;clear E;go_enter Tryz.func84,Tryz.ntmps84;go_wp2
   go_quiet (fail)
   go_wp2;go_ret;exact fin _ _ R.out
  ·by_cases I:i=uy hs lv
   ·have r:true=qw1 hs lv i:=by unfold qw1;rw[H.out,C,<-I];simp
    have R:=H_ r;clear r;subst C;rw[<-I]at h3;have Z:(x.hd.level==0)=false:=beq_eq_false_iff_ne.2 E;clear I hf;go_enter Tryz.func84,Tryz.ntmps84;go_wp2
    go_quiet (fail)
    go_wp2;go_ret;exact fin _ _ R.out
   ·have r:false=qw1 hs lv i:=by unfold qw1;rw[H.out];simp[C,E,I]
    have R:=H_ r;clear r;subst C;have Z:(x.hd.level==0)=false:=beq_eq_false_iff_ne.2 E;generalize uy hs x.hd.level=F at *;have e5:((i:Int)==(F:Int))=false:=beq_eq_false_iff_ne.2 o_;go_enter Tryz.func84,Tryz.ntmps84;go_wp2
    go_quiet (fail)
    go_wp2;go_ret;exact fin _ _ R.out
 ·have r:false=qw1 hs lv i:=by unfold qw1;rw[H.out];simp[C]
  have R:=H_ r;clear r;have Z:(x.hd.level==lv)=false:=beq_eq_false_iff_ne.2 C;go_enter Tryz.func84,Tryz.ntmps84;go_wp2
  go_quiet (fail)
  go_wp2;go_ret;exact fin _ _ R.out
theorem first_any (hs:List Hvf) (A:Option Addr) (n c:Nat) (hn:n<=1000) (p:Addr) (lv:Int) (w:World) (h:lj1 w.heap.size w A n hs) (Q:w.cell? p=some (.int .i64 lv)) (U:uy hs lv < n):
  Calls Tryz.prog 82 #[.slice A n c,.func (.func 83) #[] #[.pointer (some p)]] w fun e w'=>e=.returned (.int .i64 (uy hs lv:Int))/\Below w.heap.size w w':=by
 go_enter Tryz.func82,Tryz.ntmps82;go_wp2
 go_loopw [8] (fun i wr=>∃k:Nat,k<=uy hs lv/\i=.int .i64 (k:Int)/\Below w.heap.size w wr) (fun i _=>n - (intOf i).toNat)
 case atStart=>exact⟨0,w_ _,rfl,Below.refl _ _⟩
 case round=>
  obtain⟨k,Z,rfl,H⟩:=hrel;have I:k < n:=o_
  obtain⟨a,hl,rfl,⟨a1,c0,c1,c2,c3,c4⟩,a2⟩:=(h.below H).at_ I;have E:wr.cell? p=some (.int .i64 lv):=(H.cell (M_ w p Q)).trans Q
  by_cases e:k < uy hs lv
  ·have J:(hs[k].hd.level==lv)=false:=by simpa [uy] using bY_ e
   generalize hs[k]=x at *;generalize uy hs lv=F at *;go_wp2_with fail;refine(nk5 x p lv _ E).mono ?_;rintro e w1 ⟨rfl,C⟩;rw[J];go_wp2;go_roundw
   case rel=>exact⟨k+1,o_,by go_num,az H C⟩
   case measure=>simp[intOf];omega
  ·have O:k=uy hs lv:=o_
   have J:(hs[k].hd.level==lv)=true:=by
    subst O;exact bf_ (p:=fun h:Hvf=>h.hd.level==lv) (xs:=hs) (w:=hl)
   have EK:=H_ O;clear O Z U e;generalize hs[k]=x at *;go_wp2_with fail;refine(nk5 x p lv _ E).mono ?_;rintro e w1 ⟨rfl,C⟩;rw[J];go_wp2;go_ret;exact⟨mq1 (by rw[<-EK.out];rfl),az H C⟩
def gj1 (hs:List Hvf) (lv:Int) (x:Hvf) (k:Nat):Bool:=(List.range k).any fun j=>qw1 hs lv j&&x.hd.touch (hs.getD j hv0).hd
def jv2 (hs:List Hvf) (lv:Int) (i:Nat):Bool:=qw1 hs lv i||((hs.getD i hv0).hd.level==lv+1&&gj1 hs lv (hs.getD i hv0) hs.length)
def picks (hs:List Hvf) (lv:Int) (k:Nat):List Int:=((List.range k).filter (jv2 hs lv)).map fun i=>(hs.getD i hv0).hd.num
theorem mj2 (hs:List Hvf) (lv:Int) (x:Hvf) (k:Nat):gj1 hs lv x (k+1)=(gj1 hs lv x k||(qw1 hs lv k&&x.hd.touch (hs.getD k hv0).hd)):=by
 unfold gj1;rw[cw_,bT_];simp
theorem yq3 (hs:List Hvf) (lv:Int) (k:Nat):picks hs lv (k+1)=picks hs lv k++if jv2 hs lv k=true then [(hs.getD k hv0).hd.num] else []:=by
 unfold picks;rw[cw_,aQ_,am_]
 congr 1
 cases h:jv2 hs lv k<;>simp[h]
theorem gv5 (hs:List Hvf) (lv:Int) (k:Nat):(picks hs lv k).length<=k:=by
 unfold picks;rw[F_];exact j_ (L_ _ _) (by rw[List.length_range];exact y_ _)
theorem gj3 {hs:List Hvf} {lv:Int} {rest:List Int} (h:mv1 hs 3=lv::rest):0<=lv/\lv<=2/\dj2 hs lv=true:=by
 have:lv∈mv1 hs 3:=by rw[h];exact i_
 unfold mv1 at this;obtain⟨i,hi,rfl⟩:=W_.1 this;obtain⟨h1,h2⟩:=P_.1 hi;have:=bw_.1 h1;exact⟨o_,o_,h2⟩
theorem gw5 {hs:List Hvf} {lv:Int} (J:0<=lv) (h2:lv<=2) (h:dj2 hs lv=true):uy hs lv < hs.length:=by
 apply List.findIdx_lt_length_of_exists;apply aN_;intro C;have E:hs.filter (fun h=>h.hd.level==lv)=[]:=by
  rw[aq_];intro x H I;exact C ⟨x,H,I⟩
 unfold dj2 cntL itmL at h
 rcases (by omega:lv=0\/lv=1\/lv=2) with rfl|rfl|rfl<;>simp[E]at h
structure Box (w:World) (p:Nat) (x:Hvf):Prop where
 c0:w.cell? ⟨p,0,none⟩=some (.int .i64 x.hd.num)
 c1:w.cell? ⟨p,1,none⟩=some (.int .i64 x.hd.level)
 c2:w.cell? ⟨p,2,none⟩=some (.slice x.fa x.fn x.fc)
 c3:w.cell? ⟨p,3,none⟩=some (.slice x.la x.ln x.lc)
 c4:w.cell? ⟨p,4,none⟩=some (.int .i64 x.hd.len)
abbrev tv1 (x:Hvf):Obj:=.cells #[.int .i64 x.hd.num,.int .i64 x.hd.level,.slice x.fa x.fn x.fc,.slice x.la x.ln x.lc,.int .i64 x.hd.len] 152
theorem Box.new (w:World) (x:Hvf):Box (w.alloc (tv1 x)) w.heap.size x:=by
 constructor<;>(rw[World.cell?_alloc_at _ _ _ _ rfl];rfl)
theorem Box.lt {w:World} {p:Nat} {x:Hvf} (h:Box w p x):p < w.heap.size:=M_ _ _ h.c0
theorem Box.below {w w':World} {p:Nat} {x:Hvf} (h:Box w p x) (C:Below w.heap.size w w'):Box w' p x:=by
 have:=h.lt;exact⟨(C.cell this).trans h.c0,(C.cell (p:=⟨p,1,none⟩) this).trans h.c1,(C.cell (p:=⟨p,2,none⟩) this).trans h.c2,(C.cell (p:=⟨p,3,none⟩) this).trans h.c3,(C.cell (p:=⟨p,4,none⟩) this).trans h.c4⟩
theorem ak1 {w w':World} {p:Addr} {v:Value} (h:w.cell? p=some v) (C:Below w.heap.size w w'):w'.cell? p=some v:=(C.cell (M_ _ _ h)).trans h
theorem gw1 {w:World} {p:Addr} {v:Value} (h:w.cell? p=some v) (o:Obj):(w.alloc o).cell? p=some v:=(R_ w o p (M_ _ _ h)).trans h
def ew6 (hs:List Hvf) (e:Ending) (w':World):Prop:=match mv1 hs 3 with
 |[]=>e=.returned (.tuple #[.slice none 0 0,.int .i64 0,.bool false])
 |lv::_=>∃v,e=.returned (.tuple #[v,.int .i64 (lv+1),.bool true])/\Gives (picks hs lv hs.length) w' v
def nj1 (b:Nat) (hs:List Hvf) (e:Ending) (w':World):Prop:=match mv1 hs 3 with
 |[]=>e=.returned (.tuple #[.slice none 0 0,.int .i64 0,.bool false])
 |lv::_=>∃v,e=.returned (.tuple #[v,.int .i64 (lv+1),.bool true])/\Owns b (picks hs lv hs.length) w' v
theorem by5 {b:Nat} {hs:List Hvf} {e C:Ending} {w:World} (H:e=C) (h:nj1 b hs C w) (k:Nat):nj1 b hs e (w.drewN k):=by
 subst H;unfold nj1 at h ⊢
 cases E:mv1 hs 3 with
 |nil=>rw[E]at h;exact h
 |cons lv rest=>
  rw[E]at h;obtain⟨v,h1,h2⟩:=h;exact⟨v,h1,h2⟩
theorem wx4 (hs:List Hvf) (A:Option Addr) (n c:Nat) (hn:n<=1000) (w:World) (h:lj1 w.heap.size w A n hs):
  Calls Tryz.prog 24 #[.slice A n c] w fun e w'=>nj1 w.heap.size hs e w'/\Below w.heap.size w w':=by
 obtain⟨i0,e3,e4,a2,e5⟩:=info_parts nx5;have e6:=h.len
 cases ho:mv1 hs 3 with
 |nil=>
  have HO:=H_ ho;clear ho;have g0:Below w.heap.size w (w.alloc (.cells #[.slice A n c] 84)):=b_ _ _;go_enter Tryz.func24,Tryz.ntmps24;go_wp2_with fail;refine(ax3 hs A n c hn _ ((h.below g0).up g0.size).hrow).mono ?_;rw[HO.out];rintro e w1 ⟨⟨v,rfl,A1,c1,rfl,-⟩,a9⟩;go_wp2;go_ret3;refine⟨?_,az g0 a9⟩;unfold nj1;rw[HO.out];rfl
 |cons lv rest=>
  obtain⟨e9,e',c9⟩:=gj3 ho;have hF:=gw5 e9 e' c9;rw[h.len]at hF;have HO:=H_ ho;have HV:=H_ c9;have HL:=H_ e6;clear ho c9 e6;have g0:Below w.heap.size w (w.alloc (.cells #[.slice A n c] 84)):=b_ _ _;go_enter Tryz.func24,Tryz.ntmps24;go_wp2_with fail;refine(ax3 hs A n c hn _ ((h.below g0).up g0.size).hrow).mono ?_;rw[HO.out];rintro e w1 ⟨⟨v,rfl,A1,c1,rfl,-,-,hrow⟩,a9⟩;have a2:=az g0 a9;have a':w1.cell? ⟨w.heap.size,0,none⟩=some (.slice A n c):=by rw[a9.cell s_,World.cell?_alloc_at _ _ _ _ rfl];rfl
  obtain⟨a1,v1,rfl,i4,f5,f6⟩:=hrow.at1 (k:=0) s_;obtain rfl:v1=.int .i64 lv:=by simpa [ints] using f5.symm
  rw[bw3]at f6;have t0:((rest.length:Int)+1==0)=false:=beq_eq_false_iff_ne.2 o_;have s0:∀o,(w1.alloc o).cell? ⟨w.heap.size,0,none⟩=some (.slice A n c):=fun o=>(R_ w1 o _ (M_ _ _ a')).trans a';clear a9 f5 hrow;go_wp2_with fail;clear s0;have g1:=a2.alloc a2.size (.cells #[.int .i64 lv] 3);refine(first_any hs A n c hn ⟨w1.heap.size,0,none⟩ lv _ ((h.below g1).up g1.size) (by rw[World.cell?_alloc_at _ _ _ _ rfl];rfl) hF).mono ?_;rintro e Z ⟨rfl,b5⟩;have b0:=az g1 b5;have s1:Z.cell? ⟨w.heap.size,0,none⟩=some (.slice A n c):=by
   have:=a2.size;rw[b5.cell (by simp;omega),R_ _ _ _ (M_ _ _ a'),a']
  have s2:Z.cell? ⟨w1.heap.size,0,none⟩=some (.int .i64 lv):=by
   rw[b5.cell s_,World.cell?_alloc_at _ _ _ _ rfl];rfl
  have q1:w.heap.size < Z.heap.size:=M_ _ _ s1;have q2:w1.heap.size < Z.heap.size:=M_ _ _ s2;have s0:∀o,(Z.alloc o).cell? ⟨w.heap.size,0,none⟩=some (.slice A n c):=fun o=>(R_ Z o _ (M_ _ _ s1)).trans s1;clear a' b5 f6 i4 g1 g0 t0;go_wp2_with fail;clear s0;have f8:=(R_ Z (.cells #[.int .i64 (uy hs lv:Int)] 3) _ q1).trans s1;have f9:=(R_ Z (.cells #[.int .i64 (uy hs lv:Int)] 3) _ q2).trans s2;have f':(Z.alloc (.cells #[.int .i64 (uy hs lv:Int)] 3)).cell? ⟨Z.heap.size,0,none⟩=some (.int .i64 (uy hs lv:Int)):=by rw[World.cell?_alloc_at _ _ _ _ rfl];rfl
  have hz:=b0.alloc b0.size (.cells #[.int .i64 (uy hs lv:Int)] 3);have q3:Z.heap.size < (Z.alloc (.cells #[.int .i64 (uy hs lv:Int)] 3)).heap.size:=by simp
  have i6:w.heap.size < (Z.alloc (.cells #[.int .i64 (uy hs lv:Int)] 3)).heap.size:=by simp;omega
  have i7:w1.heap.size < (Z.alloc (.cells #[.int .i64 (uy hs lv:Int)] 3)).heap.size:=by simp;omega
  generalize (Z.alloc (.cells #[.int .i64 (uy hs lv:Int)] 3))=W at *;have hW:lj1 W.heap.size W A n hs:=(h.below hz).up hz.size;clear s1 s2 q1 q2 a2 b0 h i6 i7 q3;generalize Z.heap.size=P3 at *;generalize w1.heap.size=P2 at *;clear w1 Z
  go_loopw [2,28] (fun v i wr=>∃k:Nat,k<=n/\i=.int .i64 (k:Int)/\Owns W.heap.size (picks hs lv k) wr v/\Below W.heap.size W wr) (fun _ i _=>n - (intOf i).toNat)
  case atStart=>exact⟨0,w_ _,rfl,E_ W W.heap.size 3 1,Below.refl _ _⟩
  case round=>
   obtain⟨k,hk,rfl,ho,H⟩:=hrel;obtain⟨A1,c1,rfl,k3,k4,-⟩:=gz ho;have r1:=ak1 f8 H;have r2:=ak1 f9 H;have r3:=ak1 f' H;clear f8 f9 f'
   by_cases U:k < n
   ·have hH:lj1 wr.heap.size wr A n hs:=(hW.below H).up H.size
    obtain⟨a,hl,rfl,⟨g4,d0,d1,d2,d3,d4⟩,b6⟩:=hH.at_ U;have E1:=H_ (yq3 hs lv k);have k6:=gv5 hs lv k;have hx:=getD_lt hs hv0 hl;have HX:=H_ hx;clear hx;have u1:=fun o=>gw1 r1 o;generalize hs[k]=x at *;go_wp2_with fail;have hV:Below W.heap.size W (wr.alloc (tv1 x)):=H.alloc H.size _;have v1:=gw1 r1 (tv1 x);have v2:=gw1 r2 (tv1 x);have v3:=gw1 r3 (tv1 x);have vb:=Box.new wr x;have vH:lj1 (wr.alloc (tv1 x)).heap.size (wr.alloc (tv1 x)) (some a) n hs:=(hW.below hV).up hV.size;have vo:Owns W.heap.size (picks hs lv k) (wr.alloc (tv1 x)) (Value.slice A1 (picks hs lv k).length c1):=ho.alloc _;have i8:x.ok (wr.alloc (tv1 x)).heap.size (wr.alloc (tv1 x)):=(b6.keep fun p hp=>R_ wr _ p hp).up s_;clear u1 r1 r2 r3 d0 d1 d2 d3 d4 b6 g4 hH ho H;change Code.wp _ _ _ _ (wr.alloc (tv1 x));generalize wr.alloc (tv1 x)=V at *;generalize wr.heap.size=PX at *;clear wr
    go_loopw [11,35] (fun t j wr=>∃m:Nat,m<=n/\j=.int .i64 (m:Int)/\t=.bool (gj1 hs lv x m)/\Below V.heap.size V wr) (fun _ j _=>n - (intOf j).toNat)
    case atStart=>exact⟨0,w_ _,rfl,rfl,Below.refl _ _⟩
    case round=>
     obtain⟨m,hm,rfl,rfl,H⟩:=hrel;have r1:=ak1 v1 H;have r2:=ak1 v2 H;have r3:=ak1 v3 H;have rb:=vb.below H
     by_cases Q:m < n
     ·have hH:lj1 wr.heap.size wr (some a) n hs:=(vH.below H).up H.size
      obtain⟨ay,i',g8,⟨g4,d0,d1,d2,d3,d4⟩,b6⟩:=hH.at_ Q;obtain rfl:a=ay:=by simpa using g8
      have E2:=H_ (mj2 hs lv x m);have hy:=getD_lt hs hv0 i';have HY:=H_ hy;clear hy g8;generalize hs[m]=y at *;have hU:Below V.heap.size V (wr.alloc (tv1 y)):=H.alloc H.size _
      cases hT:gj1 hs lv x m
      ·cases hf:qw1 hs lv m
       ·have HT:=H_ hT
        have J:=H_ hf;clear hT hf;go_wp2_with fail;refine(pz1 hs (some a) n c _ _ _ lv m _ ((vH.below hU).up hU.size) Q (gw1 r1 _) (gw1 r2 _) (gw1 r3 _) hF).mono ?_;rintro e w3 ⟨rfl,E⟩;rw[J.out];go_wp2_with fail;go_roundw
        case rel=>exact⟨m+1,Q,by go_num,by rw[E2.out,HT.out,J.out];rfl,az hU E⟩
        case measure=>simp[intOf];omega
       ·have HT:=H_ hT
        have J:=H_ hf;clear hT hf;go_wp2_with fail;refine(pz1 hs (some a) n c _ _ _ lv m _ ((vH.below hU).up hU.size) Q (gw1 r1 _) (gw1 r2 _) (gw1 r3 _) hF).mono ?_;rintro e w3 ⟨rfl,E⟩;rw[J.out];have C:=az hU E;have j1:=(Box.new wr y).below E;have j2:=vb.below C;have b9:y.ok w3.heap.size w3:=((b6.keep fun p hp=>R_ wr (tv1 y) p hp).up s_).below E|>.up E.size
        have b':x.ok w3.heap.size w3:=(i8.below C).up C.size;obtain⟨y0,y1,y2,y3,y4⟩:=j1;obtain⟨x0,x1,x2,x3,x4⟩:=j2;clear d0 d1 d2 d3 d4 r1 r2 r3 rb hH;go_wp2_with fail;refine(sw4 x.hd y.hd _ _ _ _ _ _ _ _ _ _ _ _ _ b'.first b'.last b9.first b9.last).mono ?_;rintro e w4 ⟨rfl,b1⟩;go_wp2_with fail;go_roundw
        case rel=>exact⟨m+1,Q,by go_num,by rw[E2.out,HT.out,J.out,HY.out];simp,az C b1⟩
        case measure=>simp[intOf];omega
      ·have HT:=H_ hT
       clear hT;go_wp2_with fail;go_roundw
       case rel=>exact⟨m+1,Q,by go_num,by rw[E2.out,HT.out];rfl,hU⟩
       case measure=>simp[intOf];omega
     ·obtain rfl:m=n:=o_
      have a8:hs.length=m:=HL.out
      cases hf:qw1 hs lv k
      ·by_cases I:x.hd.level=lv+1
       ·cases hT:gj1 hs lv x m
        ·have BP:Hid (jv2 hs lv k=false):=by unfold jv2;rw[hf,HX.out,a8,hT];simp[H_]
         have HT:=H_ hT;clear hT a8;have J:=H_ hf;clear hf;go_wp2_with fail;refine(pz1 hs (some a) m c _ _ _ lv k _ ((vH.below H).up H.size) U r1 r2 r3 hF).mono ?_;rintro e w3 ⟨rfl,E⟩;rw[J.out];have C:=az H E;have O:=az hV C;have a4:=own_below vo C;obtain⟨x0,x1,x2,x3,x4⟩:=vb.below C;rw[I]at x1;have g9:=H_ I;clear I;have s2:=ak1 v2 C;clear r1 r2 r3 rb v1 v2 v3 E;go_wp2_with fail;go_roundw
         case rel=>exact⟨k+1,U,by go_num,by rw[E1.out,if_neg (by rw[BP.out];decide),ak_];exact a4,O⟩
         case measure=>simp[intOf];omega
        ·have BP:Hid (jv2 hs lv k=true):=by unfold jv2;rw[hf,HX.out,a8,hT,I];simp[H_]
         have HT:=H_ hT;clear hT a8;have J:=H_ hf;clear hf;go_wp2_with fail;refine(pz1 hs (some a) m c _ _ _ lv k _ ((vH.below H).up H.size) U r1 r2 r3 hF).mono ?_;rintro e w3 ⟨rfl,E⟩;rw[J.out];have C:=az H E;have O:=az hV C;have a4:=own_below vo C;obtain⟨x0,x1,x2,x3,x4⟩:=vb.below C;rw[I]at x1;have g9:=H_ I;clear I;have s2:=ak1 v2 C;clear r1 r2 r3 rb v1 v2 v3 E;go_wp2_with (at_builtin;refine iy ?_);refine bz (iq rfl (.tmp 65) (.tmp 68) _ rfl W.heap.size 3 i0 _ 1 8 Tryz.underlying30 e3 e4 a2 e5 rfl o_ W (O.alloc O.size _) (by have:=O.size;simp;omega) _ _ _ rfl (a4.alloc _) (w3.heap.size+1) _ 1 1 (ints [x.hd.num]) rfl (Row.new w3 _ _ rfl) (vw2 _) _ _ rfl rfl (by unfold maxLen;omega) o_ ?_);intro A3 c3 w4 d' b1 _ j3 j4;go_wp2_with fail;go_roundw
         case rel=>exact⟨k+1,U,by go_num,by rw[E1.out,if_pos BP.out,HX.out];unfold Owns;rw[rw1,d_];exact d',b1⟩
         case measure=>simp[intOf];omega
       ·have BP:Hid (jv2 hs lv k=false):=by unfold jv2;rw[hf,HX.out];simp[H_,I]
        have j5:(x.hd.level==lv+1)=false:=beq_eq_false_iff_ne.2 I;clear a8;have J:=H_ hf;clear hf;go_wp2_with fail;refine(pz1 hs (some a) m c _ _ _ lv k _ ((vH.below H).up H.size) U r1 r2 r3 hF).mono ?_;rintro e w3 ⟨rfl,E⟩;rw[J.out];have C:=az H E;have O:=az hV C;have a4:=own_below vo C;obtain⟨x0,x1,x2,x3,x4⟩:=vb.below C;have s2:=ak1 v2 C;clear r1 r2 r3 rb v1 v2 v3 E;go_wp2_with fail;go_roundw
        case rel=>exact⟨k+1,U,by go_num,by rw[E1.out,if_neg (by rw[BP.out];decide),ak_];exact a4,O⟩
        case measure=>simp[intOf];omega
      ·have BP:Hid (jv2 hs lv k=true):=by unfold jv2;rw[hf];simp[H_]
       clear a8;have J:=H_ hf;clear hf;go_wp2_with fail;refine(pz1 hs (some a) m c _ _ _ lv k _ ((vH.below H).up H.size) U r1 r2 r3 hF).mono ?_;rintro e w3 ⟨rfl,E⟩;rw[J.out];have C:=az H E;have O:=az hV C;have a4:=own_below vo C;obtain⟨x0,x1,x2,x3,x4⟩:=vb.below C;have s2:=ak1 v2 C;clear r1 r2 r3 rb v1 v2 v3 E;go_wp2_with (at_builtin;refine iy ?_);refine bz (iq rfl (.tmp 65) (.tmp 68) _ rfl W.heap.size 3 i0 _ 1 8 Tryz.underlying30 e3 e4 a2 e5 rfl o_ W (O.alloc O.size _) (by have:=O.size;simp;omega) _ _ _ rfl (a4.alloc _) (w3.heap.size+1) _ 1 1 (ints [x.hd.num]) rfl (Row.new w3 _ _ rfl) (vw2 _) _ _ rfl rfl (by unfold maxLen;omega) o_ ?_);intro A3 c3 w4 d' b1 _ j3 j4;go_wp2_with fail;go_roundw
       case rel=>exact⟨k+1,U,by go_num,by rw[E1.out,if_pos BP.out,HX.out];unfold Owns;rw[rw1,d_];exact d',b1⟩
       case measure=>simp[intOf];omega
   ·obtain rfl:k=n:=o_
    have fin:nj1 w.heap.size hs (.returned (.tuple #[.slice A1 (picks hs lv k).length c1,.int .i64 (lv+1),.bool true])) wr:=by
     unfold nj1;rw[HO.out];exact⟨_,rfl,by rw[HL.out];exact own_base ho hz.size⟩
    have j6:=H_ fin;clear fin;go_wp2
    go_quiet (fail)
    go_wp2;go_ret3;exact⟨by5 rfl j6.out _,az hz (below_drewN H _)⟩
end Go.Proofs.YtkdbagdiplpcfaaGreatDoor
