/- Some of the texts. No conditions. -/
import Derived.Test.YtfbkjjdfboagfaaGreatDoorBunAA
import Derived.Test.YtfbkjjdfboagfaaGreatDoorBunAB
import Derived.StillTailTactics
import Derived.Deep.CutBlock

set_option linter.unusedSimpArgs false
set_option linter.unusedVariables false
set_option maxRecDepth 100000
set_option maxHeartbeats 16000000
namespace Go.Proofs.YtfbkjjdfboagfaaGreatDoor
open Go.Proofs.Tryz Go Go.RowKit Go.Lib Go.Shelf
theorem gz5 (n:Nat) (Q:n<=1073741824) (w:World):
  Calls Tryz.prog 261 #[.slice none 0 0,(n:Int)] w fun e w'=>∃A c,e=.returned (.slice A 0 c)/\w'.ownsRow w 5 1 (.slice A 0 c) 0 []/\Below w w w':=by
 obtain⟨I,o,z,J,C⟩:=info_parts gv1
 rcases an_ n with H|H
 ·subst H
  have h:=Any8.slices_Grow_room Tryz.grow121 none 0 0 0 w l_ o_ o_ o_;refine Calls.mono h ?_;rintro e w' ⟨rfl,rfl⟩;exact⟨none,0,rfl,G_ _ _ _ _,Below.refl _ _⟩
 ·have h:=Any8.slices_Grow_grow Tryz.grow121 I (.int .u8 0) o z o_ none 0 0 n [] w l_ o_ (by rw[C];omega) o_ s_ (fun _=>rfl) (fun a h=>by cases h)
  refine Calls.mono h ?_;rintro e w' ⟨rfl,rfl⟩;have U:=grownCap_ge w (0+n) 0 5;have E:=grownCap_le_maxLen w (0+n) 0 5 (by unfold maxLen;omega);refine⟨_,_,rfl,⟨by simp,.inr ⟨(w:Nat),_,_,rfl,B_ _,heap_alloc_new w.drew _,A_ _,E,?_,by simp⟩⟩,((Below.refl w w).drew).alloc l_ _⟩;change _=grownCap w (0+n) 0 5 *1;have O:(Value.int IntKind.u8 0).cells.size=1:=rfl;simp only[b6_,Builtin.zeroCells,Array.size_map,Array.size_range,O];change 0+(0+n - 0)*1+(grownCap w (0+n) 0 5 - (0+n))*1=_;omega
theorem fq3 {ls:List (List UInt8)} {k:Nat} (o:k < ls.length):(ls.take (k+1)).flatten=(ls.take k).flatten++ls[k]:=by
 have h:=(ak_ o).symm;rw[h,bm_];simp
theorem rk4 {ls:List (List UInt8)} (k:Nat):(ls.take k).flatten.length<=ls.flatten.length:=by
 conv=>rhs;rw[<-ag_ k ls,bm_,e_]
 omega
theorem cw4 (P:Option Addr) (n c:Nat) (ls:List (List UInt8)) (w:World) (hn:n<=1073741824) (C:ls.flatten.length<=1073741824) (hr:yw2 w w P n ls):
  Calls Tryz.prog 229 #[.slice P n c] w fun e w'=>∃A' c',e=.returned (.slice A' ls.flatten.length c')/\
   w'.ownsRow w 5 1 (.slice A' ls.flatten.length c') ls.flatten.length (bts ls.flatten)/\ls.flatten.length<=c'/\c'<=maxLen/\Below w w w':=by
 obtain⟨i0,a5,a6,a7,a8⟩:=info_parts gv1;have b9:ls.length=n:=by obtain⟨_,_,h,_⟩:=hr;exact h
 obtain⟨F,hF⟩:=n_ ls.flatten.length;have HF:=H_ hF;have HB:=H_ C;rw[<-hF]at C ⊢;clear hF;go_enter Tryz.func229,Tryz.ntmps229;go_wp2
 go_loop [3,11] (fun x i=>∃k:Nat,k<=n/\i=.int .i64 k/\x=.int .i64 (((ls.take k).flatten.length:Nat):Int)) (fun _ i=>n - (intOf i).toNat)
 case atStart=>exact⟨0,A_ _,rfl,rfl⟩
 case round=>
  obtain⟨k,hk,rfl,rfl⟩:=hrel
  by_cases a9:k < n
  ·obtain⟨a,A,I,c',hl,rfl,_,hc,b0,b1,J⟩:=hr.at_ a9
   have ht:=fq3 hl;have E:=rk4 (ls:=ls) (k+1);have H:(ls.take (k+1)).flatten.length=(ls.take k).flatten.length+I:=by rw[ht,e_,J.xk]
   have b2:(ls.take k).flatten.length+I<=1073741824:=by
    have h:ls.flatten.length<=1073741824:=HB;omega
   have E1:=H_ H;clear ht E H;generalize (ls.take k).flatten.length=L at *;have d3:((L:Int)+(I:Int) < 0)=False:=by simp;omega
   go_wp2
   go_round
   case rel=>exact⟨k+1,o_,by go_num,by have H:(ls.take (k+1)).flatten.length=L+I:=E1;rw[H];go_num⟩
   case measure=>simp[intOf];omega
  ·obtain rfl:k=n:=o_
   have H:(ls.take k).flatten.length=F:=by
    have h:F=ls.flatten.length:=HF;rw[i_ o_,h]
   rw[H];clear H;go_wp2_with fail;refine(gz5 F C w).mono ?_;rintro e w1 ⟨A1,c1,rfl,b3,E⟩;go_wp2
   go_loopw [6,27] (fun o i wr=>∃(j:Nat) (A':Option Addr) (M c':Nat),j<=k/\o=.slice A' M c'/\i=.int .i64 j/\wr.ownsRow w 5 1 (.slice A' M c') M (bts (ls.take j).flatten)/\Below w w wr) (fun _ i _=>k - (intOf i).toNat)
   case atStart=>exact⟨0,A1,0,c1,A_ _,rfl,rfl,by simpa [bts] using b3,E⟩
   case round=>
    obtain⟨j,A',M,c',hj,rfl,rfl,z,hb⟩:=hrel;have Q:M=(ls.take j).flatten.length:=by
     have h1:=z.1;rw[uq]at h1;omega
    by_cases b5:j < k
    ·obtain⟨a,A,I,c2,hl,rfl,d5,hc,b0,b1,J⟩:=(hr.below hb).at_ b5
     have ht:=fq3 hl;have E:=rk4 (ls:=ls) (j+1);have b2:M+I<=1073741824:=by
      have h:ls.flatten.length<=1073741824:=HB;have H:(ls.take (j+1)).flatten.length=(ls.take j).flatten.length+I:=by rw[ht,e_,J.xk]
      omega
     have O:bts (ls.take j).flatten++bts ls[j]=bts (ls.take (j+1)).flatten:=by rw[ht,zj1]
     have b6:=by1 ls[j];generalize bts ls[j]=X at *;generalize hY:bts (ls.take (j+1)).flatten=Y at *;generalize bts (ls.take j).flatten=Z at *;have HN:=H_ O;have HY:=H_ hY;clear hY Q ht E O;go_wp2_with (at_builtin;refine iq ?_);refine gz (iy rfl (.tmp 31) (.tmp 32) _ rfl (w:Nat) 5 i0 _ 1 1 Tryz.underlying77 a5 a6 a7 a8 rfl o_ w hb hb.size _ M Z rfl z w A I c2 X rfl J b6 (M+I) Y rfl HN (by unfold maxLen;omega) o_ ?_);intro A3 c3 w3 U b7 _ d9 d';go_wp2;go_roundw
     case rel=>exact⟨j+1,A3,M+I,c3,o_,rfl,by go_num,by have hY:bts (ls.take (j+1)).flatten=Y:=HY;rw[hY];exact U,b7⟩
     case measure=>simp[intOf];omega
    ·obtain rfl:j=k:=o_
     have H:ls.take j=ls:=i_ o_;rw[H]at z Q;have h:F=ls.flatten.length:=HF;have b8:M=F:=o_
     subst b8;obtain⟨A4,c4,e4,h5,h6,_⟩:=ay z;injection e4 with e5 e6 e7;subst e5;subst e7;clear Q h H;go_wp2;go_ret;exact⟨A',c',rfl,z,h5,h6,hb⟩
theorem dw6 (w:World) (e:TypeId) (E A2 H:Option Addr) (o z C c1 c2 c3:Nat) (I J O:List UInt8) (h1:Row w w E o 1 (bts I)) (h2:Row w w A2 z 1 (bts J)) (h3:Row w w H C 1 (bts O))
  (Q:o<=c1) (U:z<=c2) (k3:C<=c3) (m1:c1<=maxLen) (m2:c2<=maxLen) (m3:c3<=maxLen):
  yw2 (w.alloc (.cells #[.slice E o c1,.slice A2 z c2,.slice H C c3] e)).heap.size (w.alloc (.cells #[.slice E o c1,.slice A2 z c2,.slice H C c3] e)) (some ⟨w,0,none⟩) 3 [I,J,O]:=by
 refine⟨_,(Row.new w #[.slice E o c1,.slice A2 z c2,.slice H C c3] e (n:=3) (size:=1) rfl).up s_,rfl,fun i hi=>?_⟩
 rcases i with _|_|_|i
 ·exact⟨E,o,c1,rfl,Q,m1,(h1.alloc l_ _).up s_⟩
 ·exact⟨A2,z,c2,rfl,U,m2,(h2.alloc l_ _).up s_⟩
 ·exact⟨H,C,c3,rfl,k3,m3,(h3.alloc l_ _).up s_⟩
 ·simp at hi
  omega
theorem fv5 (w:World) (e:TypeId) (k n:Nat) (z:k < 256) (C:n<=60000):Row (w.alloc (.cells #[.int .u8 k,.int .u8 ((n:Int) / 65536),.int .u8 ((n:Int) / 256),.int .u8 ((n:Int) % 256)] e)).heap.size
  (w.alloc (.cells #[.int .u8 k,.int .u8 ((n:Int) / 65536),.int .u8 ((n:Int) / 256),.int .u8 ((n:Int) % 256)] e)) (some ⟨w,0,none⟩) 4 1 (bts (Fr.head k n)):=by
 have h:=(Row.new w #[.int .u8 k,.int .u8 ((n:Int) / 65536),.int .u8 ((n:Int) / 256),.int .u8 ((n:Int) % 256)] e (n:=4) (size:=1) rfl).up (B':=(w.alloc (.cells #[.int .u8 k,.int .u8 ((n:Int) / 65536),.int .u8 ((n:Int) / 256),.int .u8 ((n:Int) % 256)] e)).heap.size) s_;have o:bts (Fr.head k n)=[.int .u8 k,.int .u8 ((n:Int) / 65536),.int .u8 ((n:Int) / 256),.int .u8 ((n:Int) % 256)]:=by
  simp only[bts,Fr.head,al_,bc_,UInt8.toNat_ofNat',Nat.reducePow];rw[show ((k % 256:Nat):Int)=(k:Int) from by omega,show ((n / 65536 % 256:Nat):Int)=(n:Int) / 65536 from by omega,show ((n / 256 % 256:Nat):Int)=(n:Int) / 256 from by omega,show ((n % 256:Nat):Int)=(n:Int) % 256 from by omega]
 rw[o];exact h
theorem lv1 (A:Option Addr) (N c:Nat) (l:List UInt8) (k:Nat) (B:Option Addr) (M d:Nat) (m:List UInt8) (w:World) (hN:N<=500000000) (a8:N<=c) (hc:c<=maxLen) (hr:Row w w A N 1 (bts l))
  (h1:1<=k) (h2:k<=100) (hM:M<=60000) (a9:M<=d) (hd:d<=maxLen) (hq:Row w w B M 1 (bts m)):
  Calls Tryz.prog 174 #[.slice A N c,(k:Int),.slice B M d] w fun e w'=>∃A' K c',e=.returned (.tuple #[.slice A' K c',.int .i64 0])/\
   w'.ownsRow w 5 1 (.slice A' K c') K (bts (l++Fr.put k m))/\K<=c'/\c'<=maxLen/\Below w w w':=by
 have a1:((k:Int) < 1)=False:=by simp;omega
 have a2:((100:Int) < (k:Int))=False:=by simp;omega
 have a3:((60000:Int) < (M:Int))=False:=by simp;omega
 go_enter Tryz.func174,Tryz.ntmps174;go_wp2_with fail;refine(cz2 _ 4 4 (Fr.head k M) _ l_ (by decide) o_ (fv5 w _ k M o_ hM)).mono ?_;rintro e w1 ⟨A1,c1,rfl,O,b0,b1,H⟩;have o:=az (b_ w _) H;have Q:=Row.own O;clear O H;have b2:=(hr.below o).up o.size;have b3:=(hq.below o).up o.size;go_wp2_with fail;refine(cz2 B M d m w1 a9 hd o_ b3).mono ?_;rintro e w2 ⟨A2,c2,rfl,U,b5,b6,z⟩;have C:=az o z;have a0:=Row.own U;have b7:=(b2.below z).up z.size;have a4:=(Q.below z).up z.size;have H:=o;clear U z o;have E:[l,Crc.oz (Fr.head k M),Crc.oz m].flatten=l++Fr.put k m:=by simp[Fr.put,hq.xk]
 have d3:=hr.xk;have a5:(l++Fr.put k m).length<=1073741824:=by
  rw[e_,Fr.oq,hq.xk];omega
 have HL:=H_ a5;have HF:=H_ E;have I:=dw6 w2 77 A A1 A2 N (4+4) (M+4) c c1 c2 l _ _ b7 a4 a0 a8 b0 b5 hc b1 b6;clear a5 E;go_wp2_with fail;refine(cw4 _ 3 3 _ _ o_ (by have h:[l,Crc.oz (Fr.head k M),Crc.oz m].flatten=l++Fr.put k m:=HF;rw[h];exact HL) I).mono ?_;rintro e w3 ⟨A3,c3,rfl,J,a6,b8,a7⟩;have E:[l,Crc.oz (Fr.head k M),Crc.oz m].flatten=l++Fr.put k m:=HF;rw[E]at J a6 ⊢;have hb:=az (C.alloc C.size _) a7;have ho:=own_base J (g_ C.size s_:(w:Nat)<=(w2.alloc _).heap.size);generalize (l++Fr.put k m).length=K at *;clear J a7 E;go_wp2;go_ret2;exact⟨A3,K,c3,rfl,ho,a6,b8,hb⟩
theorem yv3 (l:List UInt8) (k:Nat) (o:k < (l.take 4).length):Fr.u l k=((l.take 4)[k]).toNat:=by
 have h:k < l.length:=by rw[y_]at o;omega
 simp[Fr.u,h]
theorem head4 {w:World} {B g:Nat} {l:List UInt8} (h:Row B w (some ⟨g,0,none⟩) 4 1 (bts (l.take 4))):∃H I J O:UInt8,w.cell? g=some (.int .u8 H.toNat)/\w.cell? (g,1)=some (.int .u8 I.toNat)/\
  w.cell? (g,2)=some (.int .u8 J.toNat)/\w.cell? (g,3)=some (.int .u8 O.toNat)/\Fr.u l 0=H.toNat/\Fr.size l=I.toNat *65536+J.toNat *256+O.toNat:=by
 obtain⟨U,Q,o,_,c0⟩:=h.bt (k:=0) o_;obtain⟨a1,h1,z,_,c1⟩:=h.bt (k:=1) o_;obtain⟨a2,h2,C,_,c2⟩:=h.bt (k:=2) o_;obtain⟨a3,h3,E,_,c3⟩:=h.bt (k:=3) o_;injection o with o;injection z with z;injection C with C;injection E with E;subst o;subst z;subst C;subst E;exact⟨_,_,_,_,c0,c1,c2,c3,yv3 l 0 Q,by rw[Fr.size,yv3 l 1 h1,yv3 l 2 h2,yv3 l 3 h3]⟩
theorem qz5 (m x k:Nat) (o:x < 2 ^ k) (h:m *2 ^ k+x < 9223372036854775808):bits .or .i64 ((m *2 ^ k:Nat):Int) (x:Int)=((m *2 ^ k+x:Nat):Int):=by
 have e:BitVec.ofInt 64 ((m *2 ^ k:Nat):Int)|||BitVec.ofInt 64 (x:Int)=BitVec.ofNat 64 (m *2 ^ k+x):=by
  rw[BitVec.ofInt_natCast,BitVec.ofInt_natCast];apply BitVec.eq_of_toNat_eq;rw[BitVec.toNat_or,BitVec.toNat_ofNat,BitVec.toNat_ofNat,BitVec.toNat_ofNat,aj_ o_,aj_ o_,aj_ o_,Nat.mul_comm m,ci_ o]
 change IntKind.i64.wrap (((BitVec.ofInt 64 ((m *2 ^ k:Nat):Int)|||BitVec.ofInt 64 (x:Int)).toNat:Nat):Int)=_;rw[e,BitVec.toNat_ofNat,aj_ o_,IntKind.wrap_i64];omega
theorem tw5 (a b c:UInt8):bits .or .i64 (bits .or .i64 ((a.toNat:Int)*65536) ((b.toNat:Int)*256)) (c.toNat:Int)=((a.toNat *65536+b.toNat *256+c.toNat:Nat):Int):=by
 have o:a.toNat < 256:=a.toNat_lt;have z:b.toNat < 256:=b.toNat_lt;have C:c.toNat < 256:=c.toNat_lt;have h1:=qz5 a.toNat (b.toNat *256) 16 o_ o_;have h2:=qz5 (a.toNat *256+b.toNat) c.toNat 8 o_ o_;rw[show ((a.toNat:Int)*65536)=((a.toNat *2 ^ 16:Nat):Int) from by omega,show ((b.toNat:Int)*256)=((b.toNat *256:Nat):Int) from by omega,h1,
  show a.toNat *2 ^ 16+b.toNat *256=(a.toNat *256+b.toNat)*2 ^ 8 from by omega,h2]
theorem jk2 (A:Option Addr) (N c:Nat) (l:List UInt8) (p:Nat) (w:World) (hN:N<=1073741824) (e9:N<=c) (hc:c<=maxLen) (hr:Row w w A N 1 (bts l)) (hp:p<=N):
  Calls Tryz.prog 85 #[.slice A N c,(p:Int)] w fun e w'=>∃A' M c',e=.returned (.tuple #[.int .i64 ((Fr.take l p).1:Int),.slice A' M c',.int .i64 ((Fr.take l p).2.2.1:Int),.int .i64 ((Fr.take l p).2.2.2:Int)])/\
   w'.ownsRow w 5 1 (.slice A' M c') M (bts (Fr.take l p).2.1)/\M<=c'/\c'<=maxLen/\Below w w w':=by
 have f0:=hr.xk;have a1:((p:Int) < 0)=False:=by simp
 have a2:((N:Int) < (p:Int))=False:=by simp;omega
 obtain⟨res,a5⟩:∃r,Fr.take l p=r:=⟨_,rfl⟩;rw[a5];have J:=H_ a5;clear a5;obtain⟨A1,b2⟩:∃A1,(if c=p then A else Option.map (fun x=>x.add p) A)=A1:=⟨_,rfl⟩;have Q:Row w w A1 (N - p) 1 (bts (l.drop p)):=by
  have h:=hr.cut (A':=A1) hp (B_ N) (fun f3=>by rw[<-b2,if_neg o_,a6_]);rw[a6_,a6_,<-uv2,<-jq1]at h
  rwa [i_ (by rw[I_];omega)]at h
 by_cases h8:N - p < 8
 ·obtain rfl:res=(0,[],0,4):=by
   have C:Fr.take l p=res:=J;rw[<-C];unfold Fr.take;rw[if_pos o_]
  clear Q;go_enter Tryz.func85,Tryz.ntmps85;go_wp2;exact bodyPost_ret (v:=.tuple #[.int .i64 0,.slice none 0 0,.int .i64 0,.int .i64 4]) (by simp[results,go_sem]) rfl ⟨none,0,0,rfl,G_ _ _ _ _,B_ _,A_ _,Below.refl _ _⟩
 ·obtain⟨a,rfl,f4⟩:=hr.some_ (by rw[uq];omega)
  have d9:some (a.add p)=A1:=by rw[<-b2,if_neg o_];rfl
  subst d9;clear b2;have a6:Row w w (some (a.add p)) 8 1 (bts ((l.drop p).take 8)):=by
   have h:=Q.pre (m:=8) o_
   rwa [a6_,<-jq1]at h
  have a9:((l.drop p).take 8).take 4=(l.drop p).take 4:=by rw[aH_];rfl
  have f5:((N - p:Nat):Int) < 8↔False:=by simp;omega
  by_cases U:Crc.oz ((l.drop p).take 4)=(l.drop p).take 8
  ·have a7:=aj3 (some (a.add p)) 8 (c - p) ((l.drop p).take 8) w o_ o_ o_ o_ a6 (by rw[show 8 - 4=4 from rfl,a9];simpa using U)
   rw[show 8 - 4=4 from rfl,a9]at a7;go_enter Tryz.func85,Tryz.ntmps85;go_wp2_with fail;refine a7.mono ?_;rintro e w1 ⟨A2,c2,rfl,b6,f6,f7,E⟩;have o:=(Q.below E).up E.size;have b3:=Row.own b6;clear a7;obtain⟨g,rfl⟩:∃g,A2=some ⟨g,0,none⟩:=by
    rcases b6.2 with ⟨_,h0⟩|⟨g,_,_,hv,_⟩
    ·cases h0
    ·injection hv with hv _ _
     exact⟨g,hv⟩
   obtain⟨x0,x1,x2,x3,d0,d1,d2,d3,hu,I⟩:=head4 b3;have HU:=H_ hu;have b1:=H_ I;have f9:x0.toNat < 256:=x0.toNat_lt;have g4:x1.toNat < 256:=x1.toNat_lt;have g8:x2.toNat < 256:=x2.toNat_lt;have g':x3.toNat < 256:=x3.toNat_lt;clear hu I;have h6:=tw5 x1 x2 x3;have hz:x1.toNat *65536+x2.toNat *256+x3.toNat < 16777216:=o_
   generalize x1.toNat *65536+x2.toNat *256+x3.toNat=z at *;obtain⟨q,hq⟩:∃q,a.add p=q:=⟨_,rfl⟩;rw[hq]at Q a6 o;have e6:((x0.toNat:Nat):Int)=(x0.toNat:Int):=rfl;generalize x0.toNat=k at *
   by_cases hf:k < 1\/100 < k\/60000 < z
   ·obtain rfl:res=(0,[],0,3):=by
     have C:Fr.take l p=res:=J;rw[<-C];have hu:Fr.u (l.drop p) 0=k:=HU;have I:Fr.size (l.drop p)=z:=b1;unfold Fr.take;rw[if_neg o_,if_neg (fun h=>h U),hu,I,if_pos hf]
    by_cases f1:k < 1
    ·have c9:((k:Int) < 1):=o_
     go_wp2_with fail
     go_quiet (fail)
     go_wp2
     all_goals exact bodyPost_ret (v:=.tuple #[.int .i64 0,.slice none 0 0,.int .i64 0,.int .i64 3]) (by simp[results,go_sem]) rfl ⟨none,0,0,rfl,G_ _ _ _ _,B_ _,A_ _,below_drewN E _⟩
    ·have c9:((k:Int) < 1)=False:=by simp;omega
     by_cases f2:100 < k
     ·have d4:((100:Int) < (k:Int)):=o_
      go_wp2_with fail
      go_quiet (fail)
      go_wp2
      all_goals exact bodyPost_ret (v:=.tuple #[.int .i64 0,.slice none 0 0,.int .i64 0,.int .i64 3]) (by simp[results,go_sem]) rfl ⟨none,0,0,rfl,G_ _ _ _ _,B_ _,A_ _,below_drewN E _⟩
     ·have d4:((100:Int) < (k:Int))=False:=by simp;omega
      have e0:((60000:Int) < (z:Int)):=o_
      go_wp2_with fail
      go_quiet (fail)
      go_wp2
      all_goals exact bodyPost_ret (v:=.tuple #[.int .i64 0,.slice none 0 0,.int .i64 0,.int .i64 3]) (by simp[results,go_sem]) rfl ⟨none,0,0,rfl,G_ _ _ _ _,B_ _,A_ _,below_drewN E _⟩
   ·have c9:((k:Int) < 1)=False:=by simp;omega
    have d4:((100:Int) < (k:Int))=False:=by simp;omega
    have e0:((60000:Int) < (z:Int))=False:=by simp;omega
    by_cases ht:N - p - 8 < z+4
    ·obtain rfl:res=(0,[],0,4):=by
      have C:Fr.take l p=res:=J;rw[<-C];have hu:Fr.u (l.drop p) 0=k:=HU;have I:Fr.size (l.drop p)=z:=b1;unfold Fr.take;rw[if_neg o_,if_neg (fun h=>h U),hu,I,if_neg hf,if_pos o_]
     have e1:(((N - p - 8:Nat):Int) < (z:Int)+4):=o_
     go_wp2_with fail
     go_quiet (fail)
     go_wp2
     all_goals exact bodyPost_ret (v:=.tuple #[.int .i64 0,.slice none 0 0,.int .i64 0,.int .i64 4]) (by simp[results,go_sem]) rfl ⟨none,0,0,rfl,G_ _ _ _ _,B_ _,A_ _,below_drewN E _⟩
    ·have e1:(((N - p - 8:Nat):Int) < (z:Int)+4)=False:=by simp;omega
     have a0:Row w1 w1 (some (q.add 8)) (N - p - 8) 1 (bts (l.drop (p+8))):=by
      have h:=o.cut (A':=some (q.add 8)) (k:=8) (m:=N - p) o_ l_ (fun _=>rfl);rw[a6_,a6_,<-uv2,<-jq1,aW_]at h
      rwa [i_ (by rw[I_];omega)]at h
     have H:Row w1 w1 (some (q.add 8)) (z+4) 1 (bts ((l.drop (p+8)).take (z+4))):=by
      have h:=a0.pre (m:=z+4) o_
      rwa [a6_,<-jq1]at h
     have e8:q.add 8=⟨q.block,q.off+8,none⟩:=rfl;rw[e8]at H;have a4:((l.drop (p+8)).take (z+4)).take z=(l.drop (p+8)).take z:=by rw[aH_,aQ_ o_]
     by_cases a8:Crc.oz ((l.drop (p+8)).take z)=(l.drop (p+8)).take (z+4)
     ·obtain rfl:res=(k,(l.drop (p+8)).take z,p+8+z+4,0):=by
       have C:Fr.take l p=res:=J;rw[<-C];have hu:Fr.u (l.drop p) 0=k:=HU;have I:Fr.size (l.drop p)=z:=b1;unfold Fr.take;rw[if_neg o_,if_neg (fun h=>h U),hu,I,if_neg hf,if_neg o_,if_neg (fun h=>h a8)]
      have O:=fun nq=>aj3 (some ⟨q.block,q.off+8,none⟩) (z+4) (c - p - 8) ((l.drop (p+8)).take (z+4)) (w1.drewN nq) o_ o_ o_ o_ (H.drewN nq) (by rw[bX_,a4];simpa using a8);rw[bX_,a4]at O;clear U a8 a9 a4;go_wp2_with fail
      go_quiet (fail)
      go_wp2_with fail;refine(O _).mono ?_;rintro e w2 ⟨A4,c4,rfl,d5,e2,e3,a'⟩;have hb:=az (below_drewN E nq) a';have ho:=own_base d5 (E.size:(w:Nat)<=(w1.drewN nq).heap.size);clear O a' d5 H a0 o b3;go_wp2;refine bodyPost_ret (v:=.tuple #[(k:Int),.slice A4 z c4,.int .i64 ((p:Int)+4+4+(z:Int)+4),.int .i64 0]) (by simp[results,go_sem]) rfl ⟨A4,z,c4,?_,ho,e2,e3,hb⟩;have e5:(p:Int)+4+4+(z:Int)+4=((p+8+z+4:Nat):Int):=o_
      rw[e5];rfl
     ·obtain rfl:res=(0,[],0,5):=by
       have C:Fr.take l p=res:=J;rw[<-C];have hu:Fr.u (l.drop p) 0=k:=HU;have I:Fr.size (l.drop p)=z:=b1;unfold Fr.take;rw[if_neg o_,if_neg (fun h=>h U),hu,I,if_neg hf,if_neg o_,if_pos a8]
      have O:=fun nq=>yj3 (some ⟨q.block,q.off+8,none⟩) (z+4) (c - p - 8) ((l.drop (p+8)).take (z+4)) (w1.drewN nq) o_ o_ o_ o_ (H.drewN nq) (by rw[bX_,a4];simpa using a8);clear U a8 a9 a4;go_wp2_with fail
      go_quiet (fail)
      go_wp2_with fail;refine(O _).mono ?_;rintro e w2 ⟨rfl,a'⟩;have hb:=az (below_drewN E nq) a';clear O a' H a0 o b3;go_wp2;exact bodyPost_ret (v:=.tuple #[.int .i64 0,.slice none 0 0,.int .i64 0,.int .i64 5]) (by simp[results,go_sem]) rfl ⟨none,0,0,rfl,G_ _ _ _ _,B_ _,A_ _,hb⟩
  ·have a7:=yj3 (some (a.add p)) 8 (c - p) ((l.drop p).take 8) w o_ o_ o_ o_ a6 (by rw[show 8 - 4=4 from rfl,a9];simpa using U)
   obtain rfl:res=(0,[],0,5):=by
    have C:Fr.take l p=res:=J;rw[<-C];unfold Fr.take;rw[if_neg o_,if_pos U]
   go_enter Tryz.func85,Tryz.ntmps85;go_wp2_with fail;refine a7.mono ?_;rintro e w1 ⟨rfl,E⟩;clear a7;go_wp2;exact bodyPost_ret (v:=.tuple #[.int .i64 0,.slice none 0 0,.int .i64 0,.int .i64 5]) (by simp[results,go_sem]) rfl ⟨none,0,0,rfl,G_ _ _ _ _,B_ _,A_ _,E⟩
def i64v (ks:List Nat):List Value:=ks.map fun k:Nat=>.int .i64 k
theorem ez3 (ks:List Nat) (k:Nat):i64v ks++[.int .i64 k]=i64v (ks++[k]):=by simp[i64v]
theorem by2:(Tryz.prog.info? 3).map (fun i=>(i.zero,i.size,i.bytes))=some (some (.int .i64 0),1,8):=by kernel_rfl
theorem iv4:(Tryz.prog.info? 77).map (fun i=>(i.zero,i.size,i.bytes))=some (some (.slice none 0 0),1,24):=by kernel_rfl
structure Bods (base:Nat) (w:World) (kv bv:Value) (ks:List Nat) (bs:List (List UInt8)):Prop where
 kinds:w.ownsRow base 3 1 kv ks.length (i64v ks)
 row:∃vs,w.ownsRow base 77 1 bv bs.length vs/\∀i (h:i < bs.length),∃A k c,vs[i]?=some (.slice A k c)/\k<=c/\c<=maxLen/\Row w w A k 1 (bts bs[i])/\∀a,A=some a->a.block < (w:Nat)/\some a.block≠kv.ownBlock/\some a.block≠bv.ownBlock/\base<=a.block
 sep:∀g,kv.ownBlock=some g->bv.ownBlock≠some g
variable {base:Nat} {w w':World} {kv bv:Value} {ks:List Nat} {bs:List (List UInt8)}
theorem Bods.start (base:Nat) (w:World):Bods base w (.slice none 0 0) (.slice none 0 0) [] []:=
 ⟨G_ _ _ _ _,⟨[],G_ _ _ _ _,fun i h=>absurd h s_⟩,fun g h=>by cases h⟩
theorem Bods.below (h:Bods base w kv bv ks bs) (o:Below w w w'):Bods base w' kv bv ks bs:=by
 obtain⟨vs,C,E⟩:=h.row;refine⟨own_below h.kinds o,⟨vs,own_below C o,fun i hi=>?_⟩,h.sep⟩;obtain⟨A,k,c,e,h1,h2,h3,h4⟩:=E i hi;exact⟨A,k,c,e,h1,h2,(h3.below o).up o.size,fun a z=>⟨L_ (h4 a z).1 o.size,(h4 a z).2⟩⟩
theorem Bods.alloc (h:Bods base w kv bv ks bs) (o:Obj):Bods base (w.alloc o) kv bv ks bs:=h.below (b_ _ o)
theorem qy1 {v z:Value} {b:Nat} (o:z.ownBlock=v.ownBlock\/z.ownBlock=some (w:Nat)) (C:b < (w:Nat)) (h:some b≠v.ownBlock):some b≠z.ownBlock:=by
 rcases o with o|o
 ·rw[o];exact h
 ·rw[o]
  intro e;injection e with e;omega
theorem Bods.addK (h:Bods base w kv bv ks bs) {o:Value} {k:Nat} (E:w.grownBy w' kv.ownBlock) (U:w'.ownsRow base 3 1 o (ks.length+1) (i64v (ks++[k]))) (O:o.ownBlock=kv.ownBlock\/o.ownBlock=some (w:Nat)):Bods base w' o bv (ks++[k]) bs:=by
 obtain⟨vs,Q,hx⟩:=h.row;have H:∀g,bv.ownBlock=some g->g < (w:Nat):=fun g e=>(Q.lt g e).2;have I:bv.ownBlock=none\/bv.ownBlock≠kv.ownBlock:=by
  cases e:bv.ownBlock with
  |none=>exact .inl rfl
  |some g=>exact .inr fun e2=>h.sep g e2.symm e
 refine⟨by simpa using U,⟨vs,Q.kept E I,fun i hi=>?_⟩,?_⟩
 ·obtain⟨A,k,c,e,h1,h2,h3,h4⟩:=hx i hi
  exact⟨A,k,c,e,h1,h2,(h3.grow E (fun a z=>(h4 a z).2.1)).up E.size,fun a z=>⟨L_ (h4 a z).1 E.size,qy1 O (h4 a z).1 (h4 a z).2.1,(h4 a z).2.2⟩⟩
 ·intro g J C
  have h1:=H g C;exact qy1 O h1 (fun e=>h.sep g e.symm C) J.symm
theorem Bods.addB (h:Bods base w kv bv ks bs) {z:Value} {b:List UInt8} {A:Option Addr} {M c:Nat} {H:List Value} (hM:M<=c) (hc:c<=maxLen) (hr:Row w w A M 1 (bts b)) (E:∀a,A=some a->a.block < (w:Nat)/\some a.block≠kv.ownBlock/\some a.block≠bv.ownBlock/\base<=a.block)
  (C:w.grownBy w' bv.ownBlock) (Q:∀vs,w.ownsRow base 77 1 bv bs.length vs->H=vs++[.slice A M c]) (ho:w'.ownsRow base 77 1 z (bs.length+1) H) (U:z.ownBlock=bv.ownBlock\/z.ownBlock=some (w:Nat)):Bods base w' kv z ks (bs++[b]):=by
 obtain⟨vs,I,hx⟩:=h.row;obtain rfl:=Q vs I;have a0:∀g,kv.ownBlock=some g->g < (w:Nat):=fun g e=>(h.kinds.lt g e).2;have a1:kv.ownBlock=none\/kv.ownBlock≠bv.ownBlock:=by
  cases e:kv.ownBlock with
  |none=>exact .inl rfl
  |some g=>exact .inr fun e2=>h.sep g e e2.symm
 have a2:vs.length=bs.length:=by have:=I.1;omega
 refine⟨h.kinds.kept C a1,⟨vs++[.slice A M c],by simpa using ho,fun i hi=>?_⟩,?_⟩
 ·by_cases J:i < bs.length
  ·obtain⟨A,k,c,e,h1,h2,h3,h4⟩:=hx i J
   refine⟨A,k,c,by rw[K_ o_];exact e,h1,h2,?_,fun a o=>⟨L_ (h4 a o).1 C.size,(h4 a o).2.1,qy1 U (h4 a o).1 (h4 a o).2.2.1,(h4 a o).2.2.2⟩⟩;rw[aL_ J];exact(h3.grow C (fun a o=>(h4 a o).2.2.1)).up C.size
  ·have a4:i=bs.length:=by simp at hi;omega
   subst a4;refine⟨A,M,c,by rw[af_ o_,a2];simp,hM,hc,?_,fun a o=>⟨L_ (E a o).1 C.size,(E a o).2.1,qy1 U (E a o).1 (E a o).2.2.1,(E a o).2.2.2⟩⟩;have e1:(bs++[b])[bs.length]'s_=b:=by simp
   rw[e1];exact(hr.grow C (fun a o=>(E a o).2.2.1)).up C.size
 ·intro g O a5
  have h1:=a0 g O;exact qy1 U h1 (fun e=>h.sep g O e.symm) a5.symm
theorem mw5 {w:World} {base:Nat} {e:TypeId} {v:Value} {n size:Nat} {xs H:List Value} (h:w.ownsRow base e size v n xs) (k:w.ownsRow base e size v n H):xs=H:=by
 rcases h.2 with ⟨rfl,rfl⟩|⟨g,cap,cur,rfl,_,O,_,_,_,Q⟩
 ·have h1:=h.1
  have h2:=k.1;simp at h1 h2;rw[h1,h2]
 ·rcases k.2 with ⟨C,_⟩|⟨g2,I,J,C,_,o,_,_,_,E⟩
  ·cases C
  ·injection C with z _ _
   injection z with z;injection z with z;subst z;rw[O]at o;injection o with o;injection o with o;subst o;rw[<-Q,<-E]
theorem my3 {f:Nat} {l:List UInt8} {e:Nat} {ks:List Nat} {bs:List (List UInt8)} (h:¬e < l.length):Fr.splitF f l e ks bs=(ks,bs,e,0):=by
 cases f with
 |zero=>rfl
 |succ f=>rw[Fr.splitF,if_neg h]
theorem ik3 (A:Option Addr) (N c:Nat) (l:List UInt8) (w:World) (hN:N<=1000000000) (e6:N<=c) (hc:c<=maxLen) (hr:Row w w A N 1 (bts l)):
  Calls Tryz.prog 151 #[.slice A N c] w fun e w'=>∃kv bv,e=.returned (.tuple #[kv,bv,.int .i64 ((Fr.split l).2.2.1:Int),.int .i64 ((Fr.split l).2.2.2:Int)])/\
   Bods w w' kv bv (Fr.split l).1 (Fr.split l).2.1/\Below w w w':=by
 obtain⟨ii,e7,e9,e',f0⟩:=info_parts by2;obtain⟨ib,f1,f2,f3,f4⟩:=info_parts iv4;have d2:=hr.xk;obtain⟨res,H⟩:∃r,Fr.split l=r:=⟨_,rfl⟩;rw[H];have d3:=H_ H;clear H;go_enter Tryz.func151,Tryz.ntmps151;go_wp2
 go_loopw [2,3,4] (fun kv bv x wr=>∃(f e:Nat) (ks:List Nat) (bs:List (List UInt8)) (kA bA:Option Addr) (kc bc:Nat),kv=.slice kA ks.length kc/\bv=.slice bA bs.length bc/\x=.int .i64 e/\e<=N/\12 *ks.length<=e/\12 *bs.length<=e/\N < f+e/\Hid (Fr.splitF f l e ks bs=res)/\
  Bods w wr kv bv ks bs/\Below w w wr) (fun _ _ x _=>N - (intOf x).toNat)
 case atStart=>exact⟨N+1,0,[],[],none,none,0,0,rfl,rfl,rfl,A_ _,by simp,by simp,o_,by have h:Fr.split l=res:=d3;rw[<-h,Fr.split,d2];exact H_ rfl,Bods.start _ _,Below.refl _ _⟩
 case round=>
  obtain⟨f,e,ks,bs,kA,bA,kc,bc,rfl,rfl,rfl,he,g8,g',hf,HS,o,hb⟩:=hrel
  by_cases h':e < N
  ·have b2:=jk2 A N c l e wr o_ e6 hc ((hr.below hb).up hb.size) he
   obtain⟨t,b3⟩:∃t,Fr.take l e=t:=⟨_,rfl⟩;rw[b3]at b2;have HT:=H_ b3;clear b3;go_wp2_with fail;refine b2.mono ?_;rintro e1 w1 ⟨A1,M1,c1,rfl,a8,f7,f8,E⟩;clear b2
   by_cases O:t.2.2.2=0
   ·have Q:((t.2.2.2:Int)==0)=true:=by simp[O]
    have d7:(!((t.2.2.2:Int)==0))=false:=by rw[Q];rfl
    have z:=(o.below E).alloc (.cells #[.int .i64 t.1] 3);have a':=a8.lt;have U:∀a,A1=some a->(wr:Nat)<=a.block/\a.block < (w1:Nat):=fun a ha=>by subst ha;exact a' _ rfl
    have a0:=Row.own a8;have a1:=az hb E;have d8:=Row.new w1 #[.int .i64 t.1] 3 (n:=1) (size:=1) rfl;go_wp2_with (at_builtin;refine iq ?_);refine gz (xw rfl (.tmp 28) (.tmp 30) _ rfl (w:Nat) 3 ii _ 1 8 Tryz.underlying73 e7 e9 e' f0 rfl o_ w (a1.alloc a1.size _) (g_ a1.size s_) (.slice kA ks.length kc) ks.length (i64v ks) rfl z.kinds ((w1:Nat)+1) _ 1 1 o_ [.int .i64 t.1] rfl d8 (by intro u hu;simp at hu;subst hu;rfl) (ks.length+1) (i64v (ks++[t.1])) rfl (ez3 ks t.1) (by unfold maxLen;omega) o_ ?_);intro A3 c3 w3 a2 I a4 i0 i1 b6;have J:=z.addK a4 a2 b6;have a5:Row w3 w3 A1 M1 1 (bts t.2.1):=by
     have h:=(a0.alloc l_ (.cells #[.int .i64 t.1] 3)).up (B':=(w1.alloc (.cells #[.int .i64 t.1] 3)).heap.size) s_;exact(h.grow a4 (fun a ha=>by
      have h1:=U a ha;intro e2;have h2:=(o.kinds.lt _ e2.symm).2;omega)).up a4.size
    have b7:∀a,A1=some a->a.block < (w3:Nat)/\some a.block≠(Value.slice A3 (ks.length+1) c3).ownBlock/\some a.block≠(Value.slice bA bs.length bc).ownBlock/\(w:Nat)<=a.block:=fun a ha=>by
     have h1:=U a ha;have hz:(w1:Nat) < (w3:Nat):=L_ s_ a4.size;refine⟨o_,qy1 b6 (by simp;omega) (fun e2=>?_),fun e2=>?_,by have:=hb.size;omega⟩
     ·have h2:=(o.kinds.lt _ e2.symm).2
      omega
     ·obtain⟨vs,a6,_⟩:=o.row
      have h2:=(a6.lt _ e2.symm).2;omega
    have i2:=I.size;clear z a0 a2 d8 a' U a8 a4 b6;have e0:=Row.new w3 #[.slice A1 M1 c1] 77 (n:=1) (size:=1) rfl;have C:=J.alloc (.cells #[.slice A1 M1 c1] 77);obtain⟨vs,a6,f9⟩:=C.row;go_wp2_with (at_builtin;refine iq ?_);refine gz (xw rfl (.tmp 32) (.tmp 34) _ rfl (w:Nat) 77 ib _ 1 24 Tryz.underlying211 f1 f2 f3 f4 rfl o_ w (I.alloc I.size _) (g_ I.size s_) (.slice bA bs.length bc) bs.length vs rfl a6 ((w3:Nat)+1) _ 1 1 o_ [.slice A1 M1 c1] rfl e0 (by intro u hu;simp at hu;subst hu;rfl) (bs.length+1) (vs++[.slice A1 M1 c1]) rfl rfl (by unfold maxLen;omega) o_ ?_);intro A5 c5 w5 a7 e3 e4 i4 i5 e5;have a9:=C.addB (b:=t.2.1) f7 f8 ((a5.alloc l_ _).up s_) (fun a ha=>⟨L_ (b7 a ha).1 s_,(b7 a ha).2⟩) e4 (fun i6 h2=>by rw[mw5 a6 h2]) a7 e5;clear o J C a6 f9 e0 a7 e4 e5 b7 a5;go_wp2;go_roundw
    case rel=>
     have ht:Fr.take l e=t:=HT;have b8:=Fr.vj1 (l:=l) (p:=e) (by rw[ht];exact O);rw[ht,d2]at b8;obtain⟨f,rfl⟩:∃g,f=g+1:=⟨f - 1,o_⟩;have hs:Fr.splitF (f+1) l e ks bs=res:=HS;rw[Fr.splitF,if_pos o_,ht,if_pos O]at hs;refine⟨f,t.2.2.1,ks++[t.1],bs++[t.2.1],A3,A5,c3,c5,by simp,by simp,rfl,o_,by simp;omega,by simp;omega,o_,H_ hs,?_,e3⟩;exact a9
    case measure=>
     have ht:Fr.take l e=t:=HT;have b8:=Fr.vj1 (l:=l) (p:=e) (by rw[ht];exact O);rw[ht]at b8;simp[intOf];omega
   ·have Q:((t.2.2.2:Int)==0)=false:=by simp;omega
    have d7:(!((t.2.2.2:Int)==0))=true:=by rw[Q];rfl
    obtain rfl:res=(ks,bs,e,t.2.2.2):=by
     have ht:Fr.take l e=t:=HT;have hs:Fr.splitF f l e ks bs=res:=HS;obtain⟨f,rfl⟩:∃g,f=g+1:=⟨f - 1,o_⟩;rw[<-hs,Fr.splitF,if_pos o_,ht,if_neg O]
    have z:=o.below E;have a1:=az hb E;clear o E a8;go_wp2;exact bodyPost_ret (v:=.tuple #[.slice kA ks.length kc,.slice bA bs.length bc,(e:Int),.int .i64 t.2.2.2]) (by simp[results,go_sem]) rfl ⟨_,_,rfl,z,a1⟩
  ·obtain rfl:res=(ks,bs,e,0):=by
    have hs:Fr.splitF f l e ks bs=res:=HS;rw[<-hs,my3 o_]
   go_wp2;exact bodyPost_ret (v:=.tuple #[.slice kA ks.length kc,.slice bA bs.length bc,(e:Int),.int .i64 0]) (by simp[results,go_sem]) rfl ⟨_,_,rfl,o,hb⟩
section
end
def bigs (ns:List Nat):Bool:=ns.any fun n=>decide (281474976710656 < n)
theorem vy4 (n:Nat) (w:World):Calls Tryz.prog 245 #[[n]] w fun e w'=>e=.returned (.bool (decide ((281474976710656:Int) < (n:Int))))/\w=w':=by
 go_enter Tryz.func245,Tryz.ntmps245;go_wp2;go_ret;exact⟨rfl,rfl⟩
theorem vq4 {ns:List Nat} {k:Nat} (o:k < ns.length):bigs (ns.take (k+1))=(bigs (ns.take k)||decide (281474976710656 < ns[k])):=by
 have h:=(ak_ o).symm;unfold bigs;rw[h,List.any_append];simp
theorem sq5 {ns:List Nat} {k:Nat} (o:k < ns.length) (h:281474976710656 < ns[k]):bigs ns=true:=by
 unfold bigs;rw[aF_];exact⟨ns[k],w_ o,by simpa using h⟩
theorem ew5 (A:Option Addr) (n c:Nat) (ns:List Nat) (w:World) (hn:n<=1000) (J:Row w w A n 1 (u64v ns)):
  Calls Tryz.prog 283 #[.slice A n c,.func (.func 245) #[] #[]] w fun e w'=>(∃i:Int,e=.returned (.int .i64 i)/\decide (0<=i)=bigs ns)/\w=w':=by
 have a0:=J.tz5;go_enter Tryz.func283,Tryz.ntmps283;go_wp2
 go_loop [8] (fun i=>∃k:Nat,k<=n/\i=.int .i64 k/\Hid (bigs (ns.take k)=false)) (fun i=>n - (intOf i).toNat)
 case atStart=>exact⟨0,A_ _,rfl,H_ rfl⟩
 case round=>
  obtain⟨k,hk,rfl,O⟩:=hrel
  by_cases H:k < n
  ·obtain⟨a,Q,rfl,_,hc⟩:=J.un H
   have E:=vq4 Q;have z:=sq5 Q;generalize ns[k]=x at *;have HT:=H_ E;clear E
   by_cases U:281474976710656 < x
   ·have HO:=H_ (z U)
    have I:(281474976710656:Int) < (x:Int):=o_
    clear z;go_wp2_with fail;refine(vy4 x w).mono ?_;rintro e w1 ⟨rfl,rfl⟩;go_wp2;go_ret;exact⟨⟨k,rfl,by have h:bigs ns=true:=HO;rw[h];simp⟩,rfl⟩
   ·have I:((281474976710656:Int) < (x:Int))=False:=by simp;omega
    clear z;go_wp2_with fail;refine(vy4 x w).mono ?_;rintro e w1 ⟨rfl,rfl⟩;go_wp2
    go_round
    case rel=>
     refine⟨k+1,o_,by go_num,H_ ?_⟩;have E:bigs (ns.take (k+1))=(bigs (ns.take k)||decide (281474976710656 < x)):=HT;have C:bigs (ns.take k)=false:=O;rw[E,C];simpa using U
    case measure=>simp[intOf];omega
  ·have o:bigs ns=false:=by
    have C:bigs (ns.take k)=false:=O
    rwa [i_ o_]at C
   have HA:=H_ o;clear o;go_wp2;go_ret;exact⟨⟨-1,rfl,by have h:bigs ns=false:=HA;rw[h];rfl⟩,rfl⟩
theorem gk5 (A:Option Addr) (n c:Nat) (ns:List Nat) (w:World) (o:n<=1000) (z:Row w w A n 1 (u64v ns)):
  Calls Tryz.prog 244 #[.slice A n c,.func (.func 245) #[] #[]] w fun e w'=>e=.returned (.bool (bigs ns))/\w=w':=by
 go_enter Tryz.func244,Tryz.ntmps244;go_wp2_with fail;refine(ew5 A n c ns w o z).mono ?_;rintro e w' ⟨⟨i,rfl,hi⟩,rfl⟩;have C:=H_ hi;clear hi;go_wp2;go_ret;refine⟨?_,rfl⟩;have hi:decide (0<=i)=bigs ns:=C;rw[<-hi];rfl
theorem xx2 (A:Option Addr) (n c:Nat) (ns:List Nat) (w:World) (o:n<=1000) (z:Row w w A n 1 (u64v ns)):
  Calls Tryz.prog 198 #[.slice A n c] w fun e w'=>e=.returned (.bool (!bigs ns))/\w=w':=by
 go_enter Tryz.func198,Tryz.ntmps198;go_wp2_with fail;refine(gk5 A n c ns w o z).mono ?_;rintro e w' ⟨rfl,rfl⟩;go_wp2;go_ret;exact⟨rfl,rfl⟩
theorem vv2 (g t:Nat):(⟨g,0,none⟩:Addr).add t=⟨g,t,none⟩:=by
 unfold Addr.add;split
 ·subst_vars;rfl
 ·simp
theorem xv2 (w:World) (e:TypeId) (cs:Array Value) (ns:List Nat) (n:Nat) (h:cs.toList=u64v ns) (o:ns.length=n):Row (w.alloc (.cells cs e)).heap.size (w.alloc (.cells cs e)) (some ⟨w,0,none⟩) n 1 (u64v ns):=by
 have h1:=(Row.new w cs e (n:=n) (size:=1) (by rw[<-Array.length_toList,h];simp[u64v,o])).up (B':=(w.alloc (.cells cs e)).heap.size) s_
 rwa [h]at h1
section
end
section
def bz (fs:List (Int×Int)):List Value:=fs.flatMap fun f=>[.int .i64 f.1,.int .i64 f.2]
theorem jy1 (fs:List (Int×Int)):(bz fs).length=fs.length *2:=by
 induction fs with
 |nil=>rfl
 |cons f t o=>simp only[bz,P_,e_,r_]at o ⊢;simp only[R_]at *;omega
theorem yx1 (a b:List (Int×Int)):bz (a++b)=bz a++bz b:=by simp[bz]
theorem fw1 (fs:List (Int×Int)):∀u∈bz fs,u.oneCell'=true:=by
 intro u o;obtain⟨f,_,h⟩:=W_.1 o;simp at h
 rcases h with rfl|rfl<;>rfl
theorem sk2:∀(fs:List (Int×Int)) (k:Nat) (o:k < fs.length),(bz fs)[k *2]?=some (.int .i64 (fs[k]).1)/\(bz fs)[k *2+1]?=some (.int .i64 (fs[k]).2)
 |f::t,0,_=>by simp[bz]
 |f::t,k+1,o=>by
  have z:=sk2 t k (by simpa using o);have e:bz (f::t)=.int .i64 f.1::.int .i64 f.2::bz t:=by simp[bz]
  rw[e,show (k+1)*2=k *2+1+1 by omega,show k *2+1+1+1=(k *2+1)+1+1 by omega];simpa using z
theorem ly1:∀(fs:List (Int×Int)) (k:Nat),bz (fs.take k)=(bz fs).take (k *2)
 |fs,0=>by simp[bz]
 |[],k+1=>by simp[bz]
 |f::t,k+1=>by
  have o:=ly1 t k;have e:∀t,bz (f::t)=.int .i64 f.1::.int .i64 f.2::bz t:=fun t=>by simp[bz]
  rw[ch_,e,e,o,show (k+1)*2=k *2+1+1 by omega];simp
theorem nw3 (fs:List (Int×Int)) (k:Nat):bz (fs.drop k)=(bz fs).drop (k *2):=by
 have h1:=yx1 (fs.take k) (fs.drop k);rw[ag_,ly1]at h1;have h2:=ag_ (k *2) (bz fs);rw[h1]at h2;rw[<-h1]at h2;exact(List.append_cancel_left (h2.trans h1)).symm
structure FAt (B:Nat) (w:World) (a:Addr) (k:Nat) (f:Int×Int):Prop where
 blk:a.block < B
 c0:w.cell? (a.add (k *2))=some (.int .i64 f.1)
 c1:w.cell? ⟨(a.add (k *2)).block,(a.add (k *2)).off+1,none⟩=some (.int .i64 f.2)
theorem sj4 (a:Addr) (k:Nat) {j:Nat} (hj:0 < j):a.add (k+j)=⟨(a.add k).block,(a.add k).off+j,none⟩:=by
 rw[<-lk2,Addr.add,if_neg o_]
variable {B n:Nat} {w w':World} {A:Option Addr} {fs:List (Int×Int)}
theorem Row.flen (h:Row B w A n 2 (bz fs)):fs.length=n:=by
 have:=h.len;rw[jy1]at this;omega
theorem Row.file (h:Row B w A n 2 (bz fs)) {k:Nat} (H:k < n):∃a,∃z:k < fs.length,A=some a/\FAt B w a k fs[k]:=by
 have z:k < fs.length:=by have:=h.flen;omega
 have C:=jy1 fs;obtain⟨g0,g1⟩:=sk2 fs k z;obtain⟨a,e,E,c0⟩:=h.cell (k *2) o_;obtain⟨I,o,_,c1⟩:=h.cell (k *2+1) o_;rw[e]at o;injection o with o;subst o;rw[j_ o_]at g0 g1;injection g0 with g0;injection g1 with g1;rw[g0]at c0;rw[g1,sj4 a (k *2) o_]at c1;exact⟨a,z,e,E,c0,c1⟩
def pz (ns:List Int):List Value:=ns.map fun n=>.int .i64 n
theorem bx4 (ns:List Int) (k:Nat):(pz ns)[k]?=(ns[k]?).map fun n=>.int .i64 n:=by simp[pz]
theorem Row.ilen {ns:List Int} (h:Row B w A n 1 (pz ns)):ns.length=n:=by
 have:=h.len;simp[pz]at this;omega
theorem Row.int_ {ns:List Int} (h:Row B w A n 1 (pz ns)) {k:Nat} (C:k < n):∃a,∃z:k < ns.length,A=some a/\a.block < B/\w.cell? (a.add k)=some (.int .i64 ns[k]):=by
 obtain⟨a,v,e,E,o,H⟩:=h.at1 C;have z:k < ns.length:=by have:=h.ilen;omega
 rw[bx4,j_ z]at o;injection o with o;subst o;exact⟨a,z,e,E,H⟩
theorem vq1 (n:Int) (w:World):Calls prog 197 #[n] w fun e w'=>e=.returned (.bool (isNum n))/\w=w':=by
 obtain⟨b,o⟩:=n_ (isNum n);rw[<-o];unfold isNum at o;have z:=H_ o;clear o;go_enter func197,ntmps197
 by_cases h1:1<=n
 ·by_cases h2:n<=1073741824
  ·go_wp2
   go_ret;exact⟨by rw[z.out];simp[h1,h2],rfl⟩
  ·go_wp2
   go_ret;exact⟨by rw[z.out];simp[h2],rfl⟩
 ·go_wp2
  go_ret;exact⟨by rw[z.out];simp;omega,rfl⟩
theorem ov2 (f:Int×Int) (w:World):Calls prog 199 #[.agg #[f.1,f.2]] w fun e w'=>e=.returned (.bool (zy f))/\Below w w w':=by
 obtain⟨l,n⟩:=f;obtain⟨b,o⟩:=n_ (zy (l,n));rw[<-o];unfold zy at o;simp only at o ⊢
 cases C:isNum n with
 |false=>
  rw[C]at o;have z:=vq1 n;rw[C]at z;have E:=H_ o;clear o C;go_enter func199,ntmps199;go_wp2_with fail;refine(z _).mono ?_;rintro e w1 ⟨rfl,rfl⟩;go_wp2;go_ret;exact⟨by rw[E.out];rfl,b_ _ _⟩
 |true=>
  rw[C]at o;have z:=vq1 n;rw[C]at z;have E:=H_ o;clear o C
  by_cases h1:0<=l
  ·by_cases h2:l<=3
   ·go_enter func199,ntmps199
    go_wp2_with fail;refine(z _).mono ?_;rintro e w1 ⟨rfl,rfl⟩;go_wp2;go_ret;exact⟨by rw[E.out];simp[h1,h2],b_ _ _⟩
   ·go_enter func199,ntmps199
    go_wp2_with fail;refine(z _).mono ?_;rintro e w1 ⟨rfl,rfl⟩;go_wp2;go_ret;exact⟨by rw[E.out];simp;omega,b_ _ _⟩
  ·go_enter func199,ntmps199
   go_wp2_with fail;refine(z _).mono ?_;rintro e w1 ⟨rfl,rfl⟩;go_wp2;go_ret;exact⟨by rw[E.out];simp;omega,b_ _ _⟩
theorem yv5 (f:Int×Int) (b:Nat) (m:Int) (w:World) (z:w.cell? (b,1)=some (.int .i64 m)):
  Calls prog 201 #[.agg #[f.1,f.2],b] w fun e w'=>e=.returned (.bool (f.2==m))/\Below w w w':=by
 have C:∀o,(w.alloc o).cell? (b,1)=some (.int .i64 m):=fun o=>(ap_ w o _ (S_ w _ z)).trans z;go_enter func201,ntmps201;go_wp2;go_ret;exact⟨rfl,b_ _ _⟩
theorem yw5 (f:Int×Int) (p:Addr) (m:Int) (w:World) (z:w.cell? p=some (.int .i64 m)):
  Calls prog 207 #[.agg #[f.1,f.2],.pointer (some p)] w fun e w'=>e=.returned (.bool (f.2==m))/\Below w w w':=by
 have C:∀o,(w.alloc o).cell? p=some (.int .i64 m):=fun o=>(ap_ w o _ (S_ w _ z)).trans z;go_enter func207,ntmps207;go_wp2;go_ret;exact⟨rfl,b_ _ _⟩
theorem jx5 (f:Int×Int) (w:World):Calls prog 249 #[.agg #[f.1,f.2]] w fun e w'=>e=.returned (.bool (!zy f))/\Below w w w':=by
 go_enter func249,ntmps249;go_wp2_with fail;refine(ov2 f _).mono ?_;rintro e w1 ⟨rfl,o⟩;go_wp2;go_ret;exact⟨rfl,az (b_ _ _) o⟩
theorem bj5 (n:Int) (w:World):Calls prog 248 #[n] w fun e w'=>e=.returned (.bool (!isNum n))/\w=w':=by
 go_enter func248,ntmps248;go_wp2_with fail;refine(vq1 n _).mono ?_;rintro e w1 ⟨rfl,rfl⟩;go_wp2;go_ret;exact⟨rfl,rfl⟩
theorem wq1 {k:IntKind} {a b:Int} (h:a=b):Ending.returned (.int k a)=.returned (.int k b):=by rw[h]
theorem kw1 {a b:Bool} (h:a=b):Ending.returned (.bool a)=.returned (.bool b):=by rw[h]
def fidx {α:Type} (P:α->Bool) (l:List α):Int:=if l.any P=true then (l.findIdx P:Int) else -1
theorem av1 {α:Type} {P:α->Bool} {l:List α} (h:l.any P=false):fidx P l=-1:=by unfold fidx;rw[h];rfl
theorem mx1 {α:Type} {P:α->Bool} {l:List α} {k:Nat} (h:k < l.length):(l.take (k+1)).any P=((l.take k).any P||P l[k]):=by
 rw[v_ h,List.any_append];simp
theorem gy1 {α:Type} {P:α->Bool} {l:List α} {k:Nat} (o:k < l.length) (z:(l.take k).any P=false) (h1:P l[k]=true):fidx P l=(k:Int):=by
 unfold fidx;rw[if_pos (aF_.2 ⟨_,w_ o,h1⟩)]
 congr 1
 rw[List.findIdx_eq o];refine⟨h1,fun j hj=>?_⟩;have:=ab_.1 z l[j] (by
  rw[aJ_];exact⟨j,o_,rfl⟩)
 simpa using this
theorem xv1 {α:Type} (P:α->Bool) (l:List α):decide (0<=fidx P l)=l.any P:=by
 unfold fidx;split
 ·rename_i h;rw[h];simp
 ·rename_i h;simp at h;simp;exact h
theorem uq3 {α:Type} {P:α->Bool} {l:List α} (h:l.any P=true):∃i:Nat,fidx P l=(i:Int)/\∃hi:i < l.length,P l[i]=true/\l.findIdx P=i:=by
 unfold fidx;rw[if_pos h];have o:l.findIdx P < l.length:=b3_.2 (by simpa using h);exact⟨_,rfl,o,bG_ (w:=o),rfl⟩
theorem xq3 (K:Nat) (hF:∀args w,(callFunc K args).run prog w=.ok (.enter K args) w) (p:Addr) (P:Int×Int->Bool) (A:Option Addr) (n c:Nat) (fs:List (Int×Int)) (w:World) (hn:n<=1000000) (hr:Row w.heap.size w A n 2 (bz fs))
  (hK:∀f w1,Below w.heap.size w w1->Calls prog K #[.agg #[.int .i64 f.1,.int .i64 f.2],.pointer (some p)] w1 fun e w'=>e=.returned (.bool (P f))/\Below w1.heap.size w1 w'):
  Calls prog 206 #[.slice A n c,.func (.func K) #[] #[.pointer (some p)]] w fun e w'=>e=.returned (.int .i64 (fidx P fs))/\Below w.heap.size w w':=by
 have a6:=hr.flen;have HK:=H_ hK;have HF:=H_ hF;clear hK hF;go_enter func206,ntmps206;go_wp2
 go_loopw [8] (fun i wr=>∃k:Nat,k<=n/\i=.int .i64 k/\Hid ((fs.take k).any P=false)/\Below w.heap.size w wr) (fun i _=>n - (intOf i).toNat)
 case atStart=>exact⟨0,A_ _,rfl,H_ rfl,Below.refl _ _⟩
 case round=>
  obtain⟨k,hk,rfl,I,o⟩:=hrel
  by_cases J:k < n
  ·obtain⟨a,O,rfl,a8,c0,c1⟩:=(hr.below o).file J
   have ht:=mx1 (P:=P) O;have hs:=fun h1=>gy1 (P:=P) O I.out h1;generalize fs[k]=f at *;have HT:=H_ ht;have HS:=H_ hs;clear ht hs O;have H:=HK.out f wr o
   cases E:P f with
   |true=>
    rw[E]at H;have Q:=H_ E;clear E;go_wp2_with fail;rw[HF.out,Oper.upon_enter];refine H.mono ?_;rintro e w1 ⟨rfl,C⟩;go_wp2;go_ret;exact⟨wq1 (HS.out Q).symm,az o C⟩
   |false=>
    rw[E]at H;have Q:=H_ E;clear E;go_wp2_with fail;rw[HF.out,Oper.upon_enter];refine H.mono ?_;rintro e w1 ⟨rfl,C⟩;go_wp2;go_roundw
    case rel=>exact⟨k+1,o_,by go_num,H_ (by rw[HT.out,I.out,Q.out];rfl),az o C⟩
    case measure=>simp[intOf];omega
  ·have z:fidx P fs=-1:=av1 (by
    have U:=I.out
    rwa [i_ o_]at U)
   have HA:=H_ z;clear z;go_wp2;go_ret;exact⟨wq1 HA.symm,o⟩
end
theorem jy5 (K:Nat) (hF:∀args w,(callFunc K args).run prog w=.ok (.enter K args) w) (p:Addr) (P:Int×Int->Bool) (A:Option Addr) (n c:Nat) (fs:List (Int×Int)) (w:World) (H:n<=1000000) (I:Row w.heap.size w A n 2 (bz fs))
  (C:∀f w1,Below w.heap.size w w1->Calls prog K #[.agg #[.int .i64 f.1,.int .i64 f.2],.pointer (some p)] w1 fun e w'=>e=.returned (.bool (P f))/\Below w1.heap.size w1 w'):
  Calls prog 200 #[.slice A n c,.func (.func K) #[] #[.pointer (some p)]] w fun e w'=>e=.returned (.bool (fs.any P))/\Below w.heap.size w w':=by
 have o:=xv1 P fs;have E:=xq3 K hF p P A n c fs w H I C;clear C;generalize fidx P fs=i at *;have z:=H_ o;clear o;go_enter func200,ntmps200;go_wp2_with fail;refine E.mono ?_;rintro e w1 ⟨rfl,J⟩;clear E;go_wp2;go_ret;exact⟨kw1 z,J⟩
theorem ix5 (A:Option Addr) (n c:Nat) (fs:List (Int×Int)) (w:World) (hn:n<=1000000) (hr:Row w w A n 2 (bz fs)):
  Calls prog 200 #[.slice A n c,.func (.func 249) #[] #[]] w fun e w'=>e=.returned (.bool (fs.any fun f=>!zy f))/\Below w w w':=by
 have z:Calls prog 206 #[.slice A n c,.func (.func 249) #[] #[]] w fun e w'=>e=.returned (.int .i64 (fidx (fun f=>!zy f) fs))/\Below w w w':=by
  obtain⟨P,Q⟩:∃P:Int×Int->Bool,P=fun f=>!zy f:=⟨_,rfl⟩;have hK:∀f w1,Calls prog 249 #[.agg #[.int .i64 f.1,.int .i64 f.2]] w1 fun e w'=>e=.returned (.bool (P f))/\Below w1.heap.size w1 w':=fun f w1=>by rw[Q];exact jx5 f w1
  rw[<-Q];have a9:=hr.flen;have HK:=H_ hK;clear hK Q;go_enter func206,ntmps206;go_wp2
  go_loopw [8] (fun i wr=>∃k:Nat,k<=n/\i=.int .i64 k/\Hid ((fs.take k).any P=false)/\Below w w wr) (fun i _=>n - (intOf i).toNat)
  case atStart=>exact⟨0,A_ _,rfl,H_ rfl,Below.refl _ _⟩
  case round=>
   obtain⟨k,hk,rfl,I,o⟩:=hrel
   by_cases U:k < n
   ·obtain⟨a,hl,rfl,b0,c0,c1⟩:=(hr.below o).file U
    have ht:=mx1 (P:=P) hl;have hs:=fun h1=>gy1 (P:=P) hl I.out h1;generalize fs[k]=f at *;have HT:=H_ ht;have HS:=H_ hs;clear ht hs hl;have O:=HK.out f wr
    cases H:P f with
    |true=>
     rw[H]at O;have HP:=H_ H;clear H;go_wp2_with fail;refine O.mono ?_;rintro e w1 ⟨rfl,E⟩;go_wp2;go_ret;exact⟨wq1 (HS.out HP).symm,az o E⟩
    |false=>
     rw[H]at O;have HP:=H_ H;clear H;go_wp2_with fail;refine O.mono ?_;rintro e w1 ⟨rfl,E⟩;go_wp2;go_roundw
     case rel=>exact⟨k+1,o_,by go_num,H_ (by rw[HT.out,I.out,HP.out];rfl),az o E⟩
     case measure=>simp[intOf];omega
   ·have C:fidx P fs=-1:=av1 (by
     have a2:=I.out
     rwa [i_ o_]at a2)
    have HA:=H_ C;clear C;go_wp2;go_ret;exact⟨wq1 HA.symm,o⟩
 have J:=xv1 (fun f=>!zy f) fs;generalize fidx (fun f=>!zy f) fs=i at *;have a4:=H_ J;clear J;go_enter func200,ntmps200;go_wp2_with fail;refine z.mono ?_;rintro e w1 ⟨rfl,I⟩;clear z;go_wp2;go_ret;exact⟨kw1 a4,I⟩
theorem kq5 (A:Option Addr) (n c:Nat) (ns:List Int) (w:World) (hn:n<=1000000) (hr:Row w w A n 1 (pz ns)):
  Calls prog 247 #[.slice A n c,.func (.func 248) #[] #[]] w fun e w'=>e=.returned (.bool (ns.any fun f=>!isNum f))/\w=w':=by
 have o:Calls prog 285 #[.slice A n c,.func (.func 248) #[] #[]] w fun e w'=>e=.returned (.int .i64 (fidx (fun f=>!isNum f) ns))/\w=w':=by
  obtain⟨P,I⟩:∃P:Int->Bool,P=fun f=>!isNum f:=⟨_,rfl⟩;have hK:∀f w1,Calls prog 248 #[.int .i64 f] w1 fun e w'=>e=.returned (.bool (P f))/\w1=w':=fun f w1=>by rw[I];exact bj5 f w1
  rw[<-I];have a7:=hr.ilen;have HK:=H_ hK;clear hK I;go_enter func285,ntmps285;go_wp2
  go_loop [8] (fun i=>∃k:Nat,k<=n/\i=.int .i64 k/\Hid ((ns.take k).any P=false)) (fun i=>n - (intOf i).toNat)
  case atStart=>exact⟨0,A_ _,rfl,H_ rfl⟩
  case round=>
   obtain⟨k,hk,rfl,J⟩:=hrel
   by_cases O:k < n
   ·obtain⟨a,Q,rfl,a9,c0⟩:=hr.int_ O
    have ht:=mx1 (P:=P) Q;have hs:=fun h1=>gy1 (P:=P) Q J.out h1;generalize ns[k]=f at *;have HT:=H_ ht;have HS:=H_ hs;clear ht hs Q;have H:=HK.out f w
    cases C:P f with
    |true=>
     rw[C]at H;have U:=H_ C;clear C;go_wp2_with fail;refine H.mono ?_;rintro e w1 ⟨rfl,rfl⟩;go_wp2;go_ret;exact⟨wq1 (HS.out U).symm,rfl⟩
    |false=>
     rw[C]at H;have U:=H_ C;clear C;go_wp2_with fail;refine H.mono ?_;rintro e w1 ⟨rfl,rfl⟩;go_wp2
     go_round
     case rel=>exact⟨k+1,o_,by go_num,H_ (by rw[HT.out,J.out,U.out];rfl)⟩
     case measure=>simp[intOf];omega
   ·have z:fidx P ns=-1:=av1 (by
     have a0:=J.out
     rwa [i_ o_]at a0)
    have HA:=H_ z;clear z;go_wp2;go_ret;exact⟨wq1 HA.symm,rfl⟩
 have E:=xv1 (fun f=>!isNum f) ns;generalize fidx (fun f=>!isNum f) ns=i at *;have a1:=H_ E;clear E;go_enter func247,ntmps247;go_wp2_with fail;refine o.mono ?_;rintro e w1 ⟨rfl,rfl⟩;clear o;go_wp2;go_ret;exact⟨kw1 a1,rfl⟩
theorem ak3 (a b c d:Nat):nj2 a b c d= !bigs [a,b,c,d]:=by
 rw[cF_];simp[nj2,bigs];omega
theorem iw2:∀fs:List (Int×Int),apart fs=true↔fs.Pairwise fun f g=>g.2≠f.2
 |[]=>by simp[apart]
 |f::r=>by
  rw[apart,ao_,N_,iw2 r];simp
theorem kw4 (fs:List (Int×Int)):(fs.all zy&&apart fs)=true↔∀k (h:k < fs.length),zy fs[k]=true/\(fs.take k).any (fun g=>g.2==(fs[k]).2)=false:=by
 rw[N_,iw2,Y_,ay_];constructor
 ·rintro⟨h1,h2⟩ k o
  refine⟨h1 _ (w_ o),?_⟩;rw[ab_];intro g z;obtain⟨i,hi,rfl⟩:=aJ_.1 z;have:=h2 i k o_ o o_;simp only[beq_iff_eq];exact fun e=>this e.symm
 ·intro h
  refine⟨fun f C=>?_,fun i j hi hj E=>?_⟩
  ·obtain⟨k,o,rfl⟩:=aI_ C
   exact(h k o).1
  ·have:=ab_.1 (h j hj).2 fs[i] (aJ_.2 ⟨i,o_,rfl⟩)
   simp only[beq_iff_eq]at this;exact fun e=>this e.symm
def Vw.val (v:Vw) (A:Option Addr) (n c:Nat):Value:=.agg #[v.log,.slice A n c,[v.floor],[v.cert],[v.at_],[v.lease]]
def Vw.cells (v:Vw) (A:Option Addr) (n c:Nat):List Value:=[v.log,.slice A n c,[v.floor],[v.cert],[v.at_],[v.lease]]
def Ed.val (e:Ed) (D:Option Addr) (m d:Nat) (A:Option Addr) (n c:Nat):Value:=.agg #[.slice D m d,.slice A n c,e.log,[e.floor],[e.cert],[e.at_],[e.lease]]
theorem pz5 (v:Vw) (A:Option Addr) (n c:Nat) (w:World) (hn:n<=1000000) (e3:n<=c) (_hcm:c<=maxLen) (hr:Row w w A n 2 (bz v.files)):
  Calls prog 149 #[v.val A n c] w fun e w'=>e=.returned (.bool v.ok)/\Below w w w':=by
 obtain⟨g,fs,f,O,a,l⟩:=v;obtain⟨b,J⟩:=n_ (Vw.ok ⟨g,fs,f,O,a,l⟩);have b5:=hr.flen;rw[<-J];unfold Vw.ok at J;simp only at J hr b5;rw[ak3,b5,Bool.and_assoc _ _ (apart fs)]at J;unfold Vw.val;simp only;have z:=vq1 g
 cases h1:isNum g with
 |false=>
  rw[h1]at J z;have HB:=H_ J;clear J h1;go_enter func149,ntmps149;go_wp2_with fail;refine(z _).mono ?_;rintro e w1 ⟨rfl,rfl⟩;go_wp2;go_ret;exact⟨kw1 HB.symm,b_ _ _⟩
 |true=>
  rw[h1]at J z
  by_cases h2:n<=40
  ·cases h3:bigs [f,O,a,l] with
   |true=>
    rw[h3]at J;have HB:=H_ J;clear J h1;have HX:=H_ h3;clear h3;go_enter func149,ntmps149;go_wp2_with fail;refine(z _).mono ?_;rintro e w1 ⟨rfl,rfl⟩;clear z;have H:=xv2 (w.alloc (.cells #[g,.slice A n c,[f],[O],[a],[l]] 106)) 22 #[[f],[O],[a],[l]] [f,O,a,l] 4 rfl rfl;have o:=xx2 _ 4 4 [f,O,a,l] _ o_ H;rw[HX.out]at o;simp only[F_,bW_]at o;clear H;go_wp2_with fail;refine o.mono ?_;rintro e w1 ⟨rfl,rfl⟩;clear o;go_wp2;go_ret;exact⟨kw1 (HB.trans s_).symm,(b_ _ _).alloc s_ _⟩
   |false=>
    rw[h3]at J;have I:=kw4 fs;have b8:b=(fs.all zy&&apart fs):=by rw[J];simp[h2]
    rw[<-b8]at I;have HG:=H_ I;clear J h1 I b8;have HX:=H_ h3;clear h3;go_enter func149,ntmps149;go_wp2_with fail;refine(z _).mono ?_;rintro e w1 ⟨rfl,rfl⟩;clear z;have H:=xv2 (w.alloc (.cells #[g,.slice A n c,[f],[O],[a],[l]] 106)) 22 #[[f],[O],[a],[l]] [f,O,a,l] 4 rfl rfl;have o:=xx2 _ 4 4 [f,O,a,l] _ o_ H;rw[HX.out]at o;simp only[F_,cI_]at o;clear H;go_wp2_with fail;refine o.mono ?_;rintro e w1 ⟨rfl,rfl⟩;clear o;have a7:=(BoxO.new w #[g,.slice A n c,[f],[O],[a],[l]] 106).alloc (.cells #[[f],[O],[a],[l]] 22);have a8:=(b_ w (.cells #[g,.slice A n c,[f],[O],[a],[l]] 106)).alloc s_ (.cells #[[f],[O],[a],[l]] 22);go_wp2
    go_loopw [31] (fun i wr=>∃k:Nat,k<=n/\i=.int .i64 k/\Hid (∀j (h:j < fs.length),j < k->zy fs[j]=true/\(fs.take j).any (fun g=>g.2==(fs[j]).2)=false)/\
     BoxO wr 106 (w:Nat) [g,.slice A n c,[f],[O],[a],[l]]/\Below w w wr) (fun i _=>n - (intOf i).toNat)
    case atStart=>exact⟨0,A_ _,rfl,H_ (fun j h hj=>o_),a7,a8⟩
    case round=>
     obtain⟨k,hk,rfl,I,a',Q⟩:=hrel;clear a7 a8
     by_cases d7:k < n
     ·have b0:=(hr.pre (m:=k) hk).below Q
      rw[<-ly1]at b0;obtain⟨ad,hl,rfl,e6,c0,c1⟩:=(hr.below Q).file d7;have a5:zy fs[k]=false->b=false:=fun h=>by
       cases b with
       |false=>rfl
       |true=>have:=(HG.1 rfl k hl).1;rw[h]at this;cases this
      have U:(fs.take k).any (fun g=>g.2==(fs[k]).2)=true->b=false:=fun h=>by
       cases b with
       |false=>rfl
       |true=>have:=(HG.1 rfl k hl).2;rw[h]at this;cases this
      have a0:zy fs[k]=true->(fs.take k).any (fun g=>g.2==(fs[k]).2)=false->∀j (h:j < fs.length),j < k+1->zy fs[j]=true/\(fs.take j).any (fun g=>g.2==(fs[j]).2)=false:=fun e1 e2 j hj e'=>by
       rcases ad_ j k with h|h
       ·exact I.out j hj h
       ·obtain rfl:j=k:=o_
        exact⟨e1,e2⟩
      generalize fs[k]=x at *;obtain⟨ps,b'⟩:=n_ (fs.take k);rw[<-b']at U a0 b0;have H1:=H_ a5;have H2:=H_ U;have H3:=H_ a0;clear a5 U a0 I b' HG HX hl;have q1:=a'.c1;have C:=ov2 x
      cases hx:zy x with
      |false=>
       rw[hx]at C;have HF:=H_ hx;clear hx;go_wp2_with fail;refine(C _).mono ?_;rintro e w1 ⟨rfl,a6⟩;have a1:=az (Q.alloc Q.size (.cells #[x.1,x.2] 173)) a6;clear C;go_wp2;go_ret;exact⟨kw1 (H1.out HF).symm,a1⟩
      |true=>
       rw[hx]at C;have HF:=H_ hx;clear hx;go_wp2_with fail;refine(C _).mono ?_;rintro e w1 ⟨rfl,a6⟩;have d0:=Below.alloc (Below.refl wr wr) l_ (.cells #[x.1,x.2] 173);have a1:=az d0 a6;have d1:=a'.below a1;have d2:w1.cell? (wr,1)=some (.int .i64 x.2):=by
        rw[a6.cell (p:=⟨wr,1,none⟩) s_];exact(BoxO.new wr #[x.1,x.2] 173).cell 1
       have b1:=az Q a1;have d3:=(b0.below (a1.mono Q.size)).up b1.size;have d4:=S_ w1 _ d2;clear C a6 d0 a1 a' q1 c0 c1;have q1:=d1.c1;have a2:=jy5 201 (fun _ _=>rfl) ⟨wr,0,none⟩ (fun f=>f.2==x.2) (some ad) k c ps w1 o_ d3 (fun f w2 a4=>yv5 f wr x.2 w2 ((a4.cell (p:=⟨wr,1,none⟩) d4).trans d2))
       cases E:ps.any (fun f=>f.2==x.2) with
       |true=>
        rw[E]at a2;have HY:=H_ E;clear E;go_wp2_with fail;refine a2.mono ?_;rintro e w2 ⟨rfl,a4⟩;have b2:=az b1 a4;clear a2;go_wp2;go_ret;exact⟨kw1 (H2.out HY).symm,b2⟩
       |false=>
        rw[E]at a2;have HY:=H_ E;clear E;go_wp2_with fail;refine a2.mono ?_;rintro e w2 ⟨rfl,a4⟩;have b2:=az b1 a4;have e0:=d1.below a4;clear a2;go_wp2;go_roundw
        case rel=>exact⟨k+1,o_,by go_num,H_ (H3.out HF.out HY),e0,b2⟩
        case measure=>simp[intOf];omega
     ·have a9:b=true:=HG.2 (fun j hj=>I.out j hj o_)
      have HF:=H_ a9;clear a9 I HG HX;go_wp2;go_ret;exact⟨kw1 HF.symm,Q⟩
  ·have d5:b=false:=by rw[J];simp[h2]
   have HB:=H_ d5;clear J h1 d5;go_enter func149,ntmps149;go_wp2_with fail;refine(z _).mono ?_;rintro e w1 ⟨rfl,rfl⟩;go_wp2;go_ret;exact⟨kw1 HB.symm,b_ _ _⟩
theorem ux5 {α:Type} (P:α->Bool) (l:List α):l.any (fun f=>!P f)= !l.all P:=by
 induction l with
 |nil=>rfl
 |cons a r o=>simp only[List.any_cons,List.all_cons,o,Bool.not_and]
theorem ow3 (e:Ed) (D:Option Addr) (m d:Nat) (A:Option Addr) (n c:Nat) (w:World) (hm:m<=1000000) (hn:n<=1000000) (O:Row w w D m 1 (pz e.drop)) (hr:Row w w A n 2 (bz e.add)):
  Calls prog 205 #[e.val D m d A n c] w fun x w'=>x=.returned (.bool e.may)/\Below w w w':=by
 obtain⟨ds,fs,g,f,Q,a,l⟩:=e;obtain⟨b,H⟩:=n_ (Ed.may ⟨ds,fs,g,f,Q,a,l⟩);have a0:=hr.flen;have a1:=O.ilen;rw[<-H];unfold Ed.may at H;simp only at H hr a0 O a1;rw[ak3,a0,a1]at H;unfold Ed.val;simp only
 by_cases h1:m<=40
 ·by_cases h2:n<=40
  ·by_cases h3:0<=g
   ·by_cases h4:g<=1073741824
    ·have U:=xv2 (w.alloc (.cells #[.slice D m d,.slice A n c,g,[f],[Q],[a],[l]] 135)) 22 #[[f],[Q],[a],[l]] [f,Q,a,l] 4 rfl rfl
     have o:=xx2 _ 4 4 [f,Q,a,l] _ o_ U;have E:=(b_ w (.cells #[.slice D m d,.slice A n c,g,[f],[Q],[a],[l]] 135)).alloc s_ (.cells #[[f],[Q],[a],[l]] 22);have z:=kq5 D m d ds _ hm ((O.below E).up E.size);have J:=ix5 A n c fs _ hn ((hr.below E).up E.size);rw[ux5]at z J;have C:b=(!bigs [f,Q,a,l] &&ds.all isNum&&fs.all zy):=by rw[H];simp[h1,h2,h3,h4]
     clear H U O hr;simp only[F_]at o
     cases h5:bigs [f,Q,a,l] with
     |true=>
      rw[h5]at C o;have I:=H_ C;clear C h5 z J;simp only[bW_]at o;go_enter func205,ntmps205;go_wp2_with fail;refine o.mono ?_;rintro e w1 ⟨rfl,rfl⟩;clear o;go_wp2;go_ret;exact⟨kw1 (I.trans rfl).symm,E⟩
     |false=>
      rw[h5]at C o
      cases h6:ds.all isNum with
      |false=>
       rw[h6]at C z;have I:=H_ C;clear C h5 h6 J;simp only[cI_]at o z;go_enter func205,ntmps205;go_wp2_with fail;refine o.mono ?_;rintro e w1 ⟨rfl,rfl⟩;clear o;go_wp2_with fail;refine z.mono ?_;rintro e w1 ⟨rfl,rfl⟩;clear z;go_wp2;go_ret;exact⟨kw1 (I.trans rfl).symm,E⟩
      |true=>
       rw[h6]at C z;generalize fs.all zy=y at *;have I:=H_ C;clear C h5 h6;simp only[bW_]at z;simp only[cI_]at o;go_enter func205,ntmps205;go_wp2_with fail;refine o.mono ?_;rintro e w1 ⟨rfl,rfl⟩;clear o;go_wp2_with fail;refine z.mono ?_;rintro e w1 ⟨rfl,rfl⟩;clear z;go_wp2_with fail;refine J.mono ?_;rintro e w1 ⟨rfl,a5⟩;have a6:=az E a5;clear J
       cases y
       all_goals
        go_wp2;go_ret;exact⟨kw1 (I.trans rfl).symm,a6⟩
    ·have I:=H_ (H.trans (show _=false by simp[h4]))
     clear H;go_enter func205,ntmps205;go_wp2;go_ret;exact⟨kw1 I.symm,b_ _ _⟩
   ·have I:=H_ (H.trans (show _=false by simp[h3]))
    clear H;go_enter func205,ntmps205;go_wp2;go_ret;exact⟨kw1 I.symm,b_ _ _⟩
  ·have I:=H_ (H.trans (show _=false by simp[h2]))
   clear H;go_enter func205,ntmps205;go_wp2;go_ret;exact⟨kw1 I.symm,b_ _ _⟩
 ·have I:=H_ (H.trans (show _=false by simp[h1]))
  clear H;go_enter func205,ntmps205;go_wp2;go_ret;exact⟨kw1 I.symm,b_ _ _⟩
theorem BoxO.stores {e:TypeId} {g:Nat}:∀(vs:List Value) (o:Nat) (w:World) (xs:List Value),BoxO w e g xs->o+vs.length<=xs.length->BoxO (w.setCells g o vs) e g (xs.take o++(vs++xs.drop (o+vs.length)))
 |[],o,w,xs,h,_=>by simpa [World.setCells] using h
 |v::r,o,w,xs,h,z=>by
  simp only[r_]at z;have h1:=BoxO.stores r (o+1) (w.setCell (g,o) v) (xs.set o v) (h.store o v) (by simp;omega);have C:(xs.set o v).take (o+1)=xs.take o++[v]:=by
   rw[v_ (by simp;omega),List.take_set_of_le l_];simp
  have E:(xs.set o v).drop (o+1+r.length)=xs.drop (o+(r.length+1)):=by
   rw[cM_,if_pos o_,show o+1+r.length=o+(r.length+1) by omega]
  rw[C,E,J_]at h1;simpa [World.setCells] using h1
theorem ay1 (g:Nat):∀(vs:List Value) (o:Nat) (w w':World),Chg [g] w w'->Chg [g] w (w'.setCells g o vs)
 |[],_,_,_,h=>h
 |v::r,o,w,w',h=>ay1 g r (o+1) w _ (h.setCell v (.inl s_))
theorem my2 (w:World) (ty:TypeId) (g o c:Nat) (H:∀j,j < 2->(w.cell? ⟨g,o+j,none⟩).isSome=true) (I:∀j,j < 2->w.frozen? ⟨g,o+j,none⟩=false):
  (Builtin.clear_ #[104] ty #[.slice (some ⟨g,o,none⟩) 1 c]).run prog w=.ok (.tuple #[]) (w.setCells g o [.int .i64 0,.int .i64 0]):=by
 have z:=run_storeCells_cells (P:=prog) g o [.int .i64 0,.int .i64 0] 0 w (by simpa using H) (by simpa using I) (by intro v E;simp at E;subst E;rfl);simp only[bp_]at z;have J:(zeroValue 173).run prog w=.ok (.agg #[.int .i64 0,.int .i64 0]) w:=by kernel_rfl
 have C:(Builtin.zeroCells (Value.agg #[.int .i64 0,.int .i64 0]).cells 1).toList=[.int .i64 0,.int .i64 0]:=by kernel_rfl
 simp[Builtin.clear_,run_underlying underlying104,J,C,z]
theorem kq1:(prog.info? 173).map (fun i=>(i.zero,i.size,i.bytes))=some (some (.agg #[.int .i64 0,.int .i64 0]),2,16):=by kernel_rfl
theorem kx5 (base g n cap i:Nat) (fs:List (Int×Int)) (w:World) (ho:w.ownsRow base 173 2 (.slice (some g) n cap) n (bz fs)) (hi:i < n):
  Calls prog 208 #[.slice (some g) n cap,(i:Int),.int .i64 ((i:Int)+1)] w fun e w'=>e=.returned (.slice (some g) (n - 1) cap)/\
   w'.ownsRow base 173 2 (.slice (some g) (n - 1) cap) (n - 1) (bz (fs.eraseIdx i))/\Chg [g] w w':=by
 obtain⟨i0,b7,d8,b8,d9⟩:=info_parts kq1;have a6:=ho.1;rw[jy1]at a6
 rcases ho.2 with ⟨_,h0⟩|⟨g',d3,cur,hv,b9,z,hn,a7,a8,U⟩
 ·omega
 injection hv with C b' c9;injection C with C;injection C with C;subst C c9;clear b';have hB:BoxO w 173 g cur.toList:=by unfold BoxO;simpa using z
 have d0:cur.toList.length=cap *2:=by simpa using a8
 obtain⟨k,hk⟩:∃k,n - (i+1)=k:=⟨_,rfl⟩;have E:∀j,j < n *2->w.cell? ⟨g,j,none⟩=(bz fs)[j]?:=fun j hj=>by
  rw[hB.cell,<-U,aY_,if_pos hj]
 obtain⟨news,o⟩:=n_ (bz (fs.drop (i+1)));have I:news.length=k *2:=by rw[o,jy1,I_];omega
 have a':news=(bz fs).drop ((i+1)*2):=by rw[o,nw3]
 obtain⟨A,hA,b0⟩:∃A:Addr,(if cap=i+1 then some (⟨g,0,none⟩:Addr) else some ⟨g,(i+1)*2,none⟩)=some A/\Hid (∀j u,news[j]?=some u->w.drew.cell? (A.add j)=some u):=by
  by_cases h:cap=i+1
  ·refine⟨⟨g,0,none⟩,by simp[h],fun j u hu=>?_⟩
   have h0:news.length=0:=by rw[I];omega
   rw[ae_.1 h0]at hu;simp at hu
  ·refine⟨⟨g,(i+1)*2,none⟩,by simp[h],fun j u hu=>?_⟩
   have hj:j < k *2:=by have:=(C_.1 hu).1;omega
   rw[Addr.add_lit,show w.drew.cell? ⟨g,(i+1)*2+j,none⟩=w.cell? ⟨g,(i+1)*2+j,none⟩ from rfl,E _ o_,<-hu,a',aA_]
 have s1:Hid (news.length=k *2):=I;have s2:Hid (∀u∈news,u.oneCell'=true):=by rw[o];exact fw1 _
 have s3:Hid (∀j,j < news.length->(w.drew.cell? ⟨g,0+i *2+j,none⟩).isSome=true/\w.drew.frozen? ⟨g,0+i *2+j,none⟩=false):=by
  intro j hj;rw[I]at hj;refine⟨?_,hB.free _⟩;rw[show w.drew.cell? ⟨g,0+i *2+j,none⟩=w.cell? ⟨g,0+i *2+j,none⟩ from rfl,hB.cell,j_ o_];rfl
 obtain⟨W1,J⟩:=n_ (w.drew.setCells g (0+i *2) news);have O:BoxO W1 173 g (cur.toList.take (i *2)++(news++cur.toList.drop (i *2+news.length))):=by
  rw[J,am_];exact BoxO.stores news (i *2) w.drew _ hB.drew o_
 have b2:Chg [g] w W1:=by
  rw[J];exact ay1 g news _ w _ (Chg.refl _ _).drew
 have H:∀j,j < 2->(W1.cell? ⟨g,(i+k)*2+j,none⟩).isSome=true:=fun j hj=>by
  rw[O.cell,j_ (by simp only[e_,y_,I_];omega)];rfl
 have b3:=fun ty c=>my2 W1 ty g ((i+k)*2) c H (fun j hj=>O.free _);have a0:=BoxO.stores [.int .i64 0,.int .i64 0] ((i+k)*2) W1 _ O (by simp only[e_,y_,I_,r_,R_];omega);have b5:=ay1 g [.int .i64 0,.int .i64 0] ((i+k)*2) w _ b2;obtain⟨W2,a1⟩:=n_ (W1.setCells g ((i+k)*2) [.int .i64 0,.int .i64 0]);rw[<-a1]at a0 b5;simp only[<-a1]at b3;have Q:W2.ownsRow base 173 2 (.slice (some g) (i+k) cap) (i+k) (bz (fs.eraseIdx i)):=by
  refine⟨by rw[jy1,List.length_eraseIdx_of_lt o_];omega,.inr ⟨g,cap,_,rfl,b9,a0,o_,a7,?_,?_⟩⟩
  ·simp only[az_,e_,y_,I_,r_,R_]
   omega
  ·have e1:bz (fs.eraseIdx i)=(bz fs).take (i *2)++news:=by
    rw[List.eraseIdx_eq_take_drop_succ,yx1,ly1,o]
   have e2:(bz fs).take (i *2)=cur.toList.take (i *2):=by
    rw[<-U,aH_,aQ_ o_]
   rw[e1,e2,Z_ (by simp only[e_,y_,I_];omega),aH_,aQ_ o_,<-J_,
    Z_ (by simp only[e_,y_];omega),i_ (by simp only[e_,y_];omega)]
 have a2:i+k=n - 1:=o_
 have HF:Hid (W2.ownsRow base 173 2 (.slice (some g) (n - 1) cap) (n - 1) (bz (fs.eraseIdx i))):=by rw[<-a2];exact Q
 have d1:=H_ a2;have HW:=H_ J;have e1:((i:Int)==(i:Int)+1)=false:=by simp;omega
 have e9:i<=cap:=o_
 have d6:i+1<=cap:=o_
 have e':0<=(i:Int)+1/\(i:Int)+1<=(n:Int):=o_
 have a4:i+k<=cap:=o_
 have f0:i+k<=n:=o_
 have f1:n - (i+k)=1:=o_
 have f2:(n:Int)<=(cap:Int):=o_
 unfold maxLen at a7;clear ho z hB d0 E o I a' O b2 H a0 a1 Q a2 J U a8 a6;go_enter func208,ntmps208;go_wp2_with fail
 go_region_law (refine step_append_room rfl (.tmp 22) (.tmp 25) 104 rfl 173 i0 2 underlying104 b7 b8 g 0 i cap (by simp[Act.eval,Act.put]) A k (cap - (i+1)) news (by simp[Act.eval,Act.put]) s1.out b0.out s2.out a4 s3.out ?_;rw[<-HW.out])
 go_wp2_with fail;go_ret;exact⟨congrArg (fun x=>Ending.returned (Value.slice (some g) x cap)) d1,HF,b5⟩
theorem rz1 {a:Nat} (h:a≠0) (b:Nat):orElse a b=a:=if_neg h
namespace Pn
theorem qk2:∀(l:List UInt8) (i acc:Nat),(takeF i acc l).2.2=0->(takeF i acc l).2.1<=i+l.length
 |[],i,acc,h=>by simp[takeF]at h
 |c::r,i,acc,h=>by
  unfold takeF at h ⊢;split
  ·rw[if_pos (by assumption)]at h;simp at h
  ·rw[if_neg (by assumption)]at h
   split
   ·simp
   ·rw[if_neg (by assumption)]at h
    have:=qk2 r (i+1) _ h;simp only[r_];omega
theorem take_size {l:List UInt8} (h:(take l).2.2=0):(take l).2.1<=l.length:=by
 have:=qk2 l 0 0 h;unfold take;omega
theorem zq3:∀(l:List UInt8) (i acc:Nat),i<=9->acc < 2 ^ (7 *i)->(takeF i acc l).1 < 2 ^ 64
 |[],i,acc,_,_=>by simp[takeF]
 |c::r,i,acc,hi,O=>by
  unfold takeF;split
  ·simp
  ·rename_i H
   have z:i=9->c.toNat<=1:=fun e=>by
    rcases ad_ 1 c.toNat with h|h
    ·exact absurd (.inl ⟨e,h⟩) H
    ·exact h
   have C:2 ^ (7 *i)*128=2 ^ (7 *(i+1)):=by rw[Nat.mul_add,cL_]
   split
   ·rename_i I
    show acc+c.toNat *2 ^ (7 *i) < 2 ^ 64
    rcases (by omega:i=9\/i<=8) with rfl|o
    ·have:=z rfl
     have E:c.toNat *2 ^ (7 *9)<=1 *2 ^ (7 *9):=ba_ _ this;omega
    ·have E:c.toNat *2 ^ (7 *i)<=127 *2 ^ (7 *i):=ba_ _ o_
     have Q:2 ^ (7 *(i+1))<=2 ^ 63:=bK_ o_ o_;omega
   ·rename_i I
    have o:i<=8:=by
     rcases (by omega:i=9\/i<=8) with rfl|o
     ·have:=z rfl;omega
     ·exact o
    refine zq3 r (i+1) _ o_ ?_;have J:=c.toNat_lt;have E:(c.toNat - 128)*2 ^ (7 *i)<=127 *2 ^ (7 *i):=ba_ _ o_;omega
theorem qx3 (l:List UInt8):(take l).1 < 2 ^ 64:=zq3 l 0 0 o_ s_
theorem az2 (j at_:Nat) (l:List UInt8) (out:List Nat):unlistF (j+1) at_ l out=if (take (l.drop at_)).2.2=0 then unlistF j (at_+(take (l.drop at_)).2.1) l (out++[(take (l.drop at_)).1]) else ([],0,(take (l.drop at_)).2.2):=by
 rw[unlistF];generalize take (l.drop at_)=p;obtain⟨x,s,e⟩:=p
 match e with
 |0=>rfl
 |e+1=>rfl
theorem dq3 (l:List UInt8) (most:Nat):vw l most=if (take l).2.2=0 then (if most < (take l).1 then ([],0,2) else unlistF (take l).1 (take l).2.1 l []) else ([],0,(take l).2.2):=by
 unfold vw;generalize take l=p;obtain⟨x,s,e⟩:=p
 match e with
 |0=>rfl
 |e+1=>rfl
theorem ny2:∀(k at_:Nat) (l:List UInt8) (out:List Nat),(unlistF k at_ l out).2.2=0->at_<=l.length->(unlistF k at_ l out).2.1<=l.length
 |0,at_,l,out,_,h=>by simpa [unlistF] using h
 |k+1,at_,l,out,h,C=>by
  rw[az2]at h ⊢;have o:=take_size (l:=l.drop at_);rw[I_]at o;split
  ·rename_i z
   rw[if_pos z]at h;have:=o z;exact ny2 k _ l _ h o_
  ·simp
theorem wv4 (l:List UInt8) (most:Nat) (h:(vw l most).2.2=0):(vw l most).2.1<=l.length/\(vw l most).1.length<=most:=by
 rw[dq3]at h ⊢;have z:=take_size (l:=l)
 by_cases o:(take l).2.2=0
 ·rw[if_pos o]at h ⊢
  by_cases h1:most < (take l).1
  ·rw[if_pos h1]at h;simp at h
  ·rw[if_neg h1]at h ⊢
   refine⟨ny2 _ _ l [] h (z o),?_⟩;have:=ly2 _ _ l [] h;simp at this;omega
 ·rw[if_neg o]at h
  simp at h;exact absurd h o
end Pn
theorem lx1 {B N:Nat} {w:World} {A:Option Addr} {l:List UInt8} (z:Row B w A N 1 (bts l)) {s:Nat} (C:s<=N) {A':Option Addr} (E:s < N->A'=A.map (·.add s)):Row B w A' (N - s) 1 (bts (l.drop s)):=by
 have h:=z.cut (A':=A') C (B_ N) (fun o=>by rw[a6_];exact E o);rw[a6_,a6_,<-uv2,<-jq1]at h
 rwa [i_ (by have:=z.xk;rw[I_];omega)]at h
theorem cj4 (A:Option Addr) (N c:Nat) (l:List UInt8) (m:Nat) (w:World) (hN:N<=1000000000) (d7:N<=c) (hm:m<=1000) (hr:Row w w A N 1 (bts l)):
  Calls prog 203 #[.slice A N c,(m:Int)] w fun e w'=>∃A' k' c',e=.returned (.tuple #[.slice A' k' c',.int .i64 ((Pn.vw l m).2.1:Int),.int .i64 ((Pn.vw l m).2.2:Int)])/\
   w'.ownsRow w 22 1 (.slice A' k' c') k' (u64v (Pn.vw l m).1)/\Below w w w':=by
 obtain⟨j0,b1,b2,b3,b5⟩:=info_parts (show (prog.info? 22).map (fun i=>(i.zero,i.size,i.bytes))=some (some (.int .u64 0),1,8) by kernel_rfl);have a4:=hr.xk;have U:=take_any A N c l w o_ hr;have H:=Pn.dq3 l m;have C:=Pn.take_size (l:=l);have b6:=Pn.qx3 l;obtain⟨R,hR⟩:=n_ (Pn.vw l m);rw[<-hR]at H ⊢;generalize hp:Pn.take l=p at *;obtain⟨n,s,er⟩:=p;simp only at U H C b6;clear hp hR;have d4:max (m:Int) 0=(m:Int):=o_
 have d':IntKind.u64.wrap (m:Int)=(m:Int):=by rw[IntKind.wrap_u64];omega
 by_cases he:er=0
 ·subst he
  rw[if_pos rfl]at H;have hs:=C rfl
  by_cases a5:m < n
  ·rw[if_pos a5]at H
   have HU:=H_ H;have a6:(m:Int) < (n:Int):=o_
   clear H C a4 hr;go_enter func203,ntmps203;go_wp2_with fail;refine U.mono ?_;rintro e w1 ⟨rfl,rfl⟩;clear U;go_wp2;refine bodyPost_ret (v:=.tuple #[.slice none 0 0,.int .i64 0,.int .i64 2]) (by simp[results,go_sem]) rfl ⟨none,0,0,by rw[HU.out];rfl,by rw[HU.out];exact G_ _ _ _ _,Below.refl _ _⟩
  ·rw[if_neg a5]at H
   have HU:=H_ H;have a6:((m:Int) < (n:Int))=False:=by simp;omega
   have e0:n<=1000:=o_
   have b7:=hr;clear H C;go_enter func203,ntmps203;go_wp2_with fail;refine U.mono ?_;rintro e w1 ⟨rfl,rfl⟩;clear U;go_wp2
   go_loopw [8,10,31] (fun a o x wr=>∃(k at_:Nat) (out:List Nat) (A':Option Addr) (c':Nat),k<=n/\a=.int .i64 at_/\o=.slice A' k c'/\x=.int .u64 k/\at_<=N/\Hid (R=Pn.unlistF (n - k) at_ l out)/\wr.ownsRow w 22 1 (.slice A' k c') k (u64v out)/\Below w w wr) (fun _ _ x _=>n - (intOf x).toNat)
   case atStart=>exact⟨0,s,[],none,0,A_ _,rfl,rfl,rfl,o_,HU,G_ _ _ _ _,Below.refl _ _⟩
   case round=>
    obtain⟨k,at_,out,A',c',hk,rfl,rfl,rfl,b8,O,I,E⟩:=hrel
    by_cases e1:k < n
    ·have z:=O.out
     rw[show n - k=(n - (k+1))+1 by omega,Pn.az2]at z;have C:=Pn.take_size (l:=l.drop at_);obtain⟨A2,b9⟩:∃A2,(if c=at_ then A else Option.map (fun x=>x.add at_) A)=A2:=⟨_,rfl⟩;have Q:=lx1 (b7.below E) b8 (A':=A2) (fun d6=>by rw[<-b9,if_neg o_]);have J:=take_any A2 (N - at_) (c - at_) (l.drop at_) wr o_ (Q.up E.size);rw[I_]at C;generalize Pn.take (l.drop at_)=p at *;obtain⟨y,sz,e2⟩:=p;simp only at z C J;have e3:at_<=c:=o_
     have c9:=H_ C;clear Q C O
     by_cases a7:e2=0
     ·subst a7
      rw[if_pos rfl]at z;have HS:=H_ z;have e4:=c9.out rfl;clear z;have a8:=Row.new (n:=1) (size:=1) wr #[[y]] 22 rfl;go_wp2_with fail;refine J.mono ?_;rintro e w2 ⟨rfl,rfl⟩;clear J;go_wp2_with (at_builtin;refine iq ?_);refine gz (iy rfl (.tmp 44) (.tmp 46) _ rfl (w:Nat) 22 j0 _ 1 8 underlying277 b1 b2 b3 b5 rfl o_ (wr.alloc (.cells #[[y]] 22)) b0_ (by have:=E.size;simp;omega) (.slice A' k c') k (u64v out) rfl (I.alloc _) ((wr:Nat)+1) _ 1 1 [[y]] rfl a8 (by simp[Value.oneCell']) (k+1) _ rfl rfl (by unfold maxLen;omega) o_ ?_);intro A3 c3 w3 d0 a9 d1 e7 e9;have a':=(E.alloc E.size (.cells #[[y]] 22)).trans a9;clear I E a9 d1 a8;go_wp2_with fail;go_roundw
      case rel=>exact⟨k+1,at_+sz,out++[y],A3,c3,o_,by go_num,rfl,by go_num,o_,HS,by simpa [u64v] using d0,a'⟩
      case measure=>simp[intOf];omega
     ·rw[if_neg a7]at z
      have HS:=H_ z;have d2:((e2:Int)==0)=false:=by simp;omega
      clear z;go_wp2_with fail;refine J.mono ?_;rintro e w2 ⟨rfl,rfl⟩;clear J;go_wp2;refine bodyPost_ret (v:=.tuple #[.slice none 0 0,.int .i64 0,(e2:Int)]) (by simp[results,go_sem]) rfl ⟨none,0,0,by rw[HS.out];rfl,by rw[HS.out];exact G_ _ _ _ _,E⟩
    ·obtain rfl:n=k:=o_
     have z:=O.out;rw[by_,Pn.unlistF]at z;have HS:=H_ z;clear z O;go_wp2;refine bodyPost_ret (v:=.tuple #[.slice A' n c',(at_:Int),.int .i64 0]) (by simp[results,go_sem]) rfl ⟨A',n,c',by rw[HS.out];rfl,by rw[HS.out];exact I,E⟩
 ·rw[if_neg he]at H
  have HU:=H_ H;have d2:((er:Int)==0)=false:=by simp;omega
  clear H C a4 hr;go_enter func203,ntmps203;go_wp2_with fail;refine U.mono ?_;rintro e w1 ⟨rfl,rfl⟩;clear U;go_wp2;refine bodyPost_ret (v:=.tuple #[.slice none 0 0,.int .i64 0,(er:Int)]) (by simp[results,go_sem]) rfl ⟨none,0,0,by rw[HU.out];rfl,by rw[HU.out];exact G_ _ _ _ _,Below.refl _ _⟩
theorem uv4 (B R:Nat) (hB:B<=R) (A:Option Addr) (N c:Nat) (l:List UInt8) (ok:Bool) (most:Nat) (w:World) (hN:N<=1000000000) (a4:N<=c) (_hm:most < 18446744073709551616)
  (O:BoxO w 282 R [.slice A N c,.bool ok]) (hr:Row B w A N 1 (bts l)):
  Calls prog 204 #[R,[most]] w fun e w'=>∃A' z c',e=.returned (.int .u64 ((Rd.take most (l,ok)).1:Int))/\z<=c'/\z<=N/\Row B w' A' z 1 (bts (Rd.take most (l,ok)).2.1)/\BoxO w' 282 R [.slice A' z c',.bool (Rd.take most (l,ok)).2.2]/\Chg [R] w w':=by
 have h0:=O.cell 0;have h1:=O.cell 1;have hf:=O.free 0;have b1:=O.free 1;have C:=take_any A N c l w o_ (hr.up (g_ hB (b8_ O.lt)));have o:=Pn.take_size (l:=l);have E:=hr.xk;have H:Rd.take most (l,ok)=if ok=true/\(Pn.take l).2.2=0/\(Pn.take l).1<=most then ((Pn.take l).1,(l.drop (Pn.take l).2.1,true)) else (0,(l,false)):=rfl
 obtain⟨T,hT⟩:=n_ (Rd.take most (l,ok));rw[<-hT]at H ⊢;generalize Pn.take l=p at *;obtain⟨n,s,er⟩:=p;simp only[gE0,gE1]at h0 h1 C o H;clear hT;have Q:=H_ H;clear H;have bad:∀(W:World),(ok=true/\er=0/\n<=most->False)->W=w.setCell (R,1) (.bool false)->∃A' z c',Ending.returned (.int .u64 0)=.returned (.int .u64 T.1)/\z<=c'/\z<=N/\Row B W A' z 1 (bts T.2.1)/\BoxO W 282 R [.slice A' z c',.bool T.2.2]/\Chg [R] w W:=by
  intro W h hW;rw[Q.out,if_neg h,hW];exact⟨A,N,c,rfl,a4,B_ _,hr.setCell hB _,O.store 1 _,tq w ⟨R,1,none⟩ _⟩
 have I:=H_ bad;clear bad
 cases ok with
 |false=>
  clear o E;go_enter func204,ntmps204;go_wp2_with fail;refine C.mono ?_;rintro e w1 ⟨rfl,rfl⟩;clear C;go_wp2;go_ret;exact I.out _ (fun h=>by cases h.1) rfl
 |true=>
  by_cases he:er=0
  ·by_cases hn:n<=most
   ·subst he
    have b3:=o rfl;obtain⟨A',a6⟩:∃A',(if c=s then A else Option.map (fun x=>x.add s) A)=A':=⟨_,rfl⟩;have U:=lx1 hr (s:=s) (A':=A') o_ (fun b5=>by rw[<-a6,if_neg o_]);have a7:((most:Int) < (n:Int))=False:=by simp;omega
    have b6:s<=N:=o_
    have a':s<=c:=o_
    have J:T=(n,(l.drop s,true)):=by rw[Q.out,if_pos ⟨rfl,rfl,hn⟩]
    have a0:=H_ J;clear o E J I Q;go_enter func204,ntmps204;go_wp2_with fail;refine C.mono ?_;rintro e w1 ⟨rfl,rfl⟩;clear C;go_wp2;go_ret;rw[a0.out];exact⟨A',N - s,c - s,rfl,o_,o_,U.setCell hB _,O.store 0 _,tq w ⟨R,0,none⟩ _⟩
   ·subst he
    have a7:(most:Int) < (n:Int):=o_
    clear o E;go_enter func204,ntmps204;go_wp2_with fail;refine C.mono ?_;rintro e w1 ⟨rfl,rfl⟩;clear C;go_wp2;go_ret;exact I.out _ (fun h=>hn h.2.2) rfl
  ·have b7:((er:Int)==0)=false:=by simp;omega
   have b8:¬(er:Int)=0:=o_
   clear o E;go_enter func204,ntmps204;go_wp2_with fail;refine C.mono ?_;rintro e w1 ⟨rfl,rfl⟩;clear C;go_wp2;go_ret;exact I.out _ (fun h=>he h.2.1) rfl
section
end
structure Bv where
 g:Nat
 f:Nat
 c:Nat
 a:Nat
 l:Nat
theorem Bods.chg {base:Nat} {w w':World} {kv bv:Value} {ks:List Nat} {bs:List (List UInt8)} {g:Nat} (h:Bods base w kv bv ks bs) (c:Chg [g] w w') (J:g < base):Bods base w' kv bv ks bs:=by
 have o:w.grownBy w' (some g):=⟨c.os,c.tape,c.output,c.size,fun k H C=>c.block k H (by simp;intro e;exact C (by rw[e]))⟩;obtain⟨vs,E,I⟩:=h.row;refine⟨h.kinds.kept o (.inr (fun e=>?_)),⟨vs,E.kept o (.inr (fun e=>?_)),fun i hi=>?_⟩,h.sep⟩
 ·have:=(h.kinds.lt _ e).1
  omega
 ·have:=(E.lt _ e).1
  omega
 ·obtain⟨A,k,c1,e,h1,h2,h3,h4⟩:=I i hi
  exact⟨A,k,c1,e,h1,h2,(h3.grow o (fun a z e=>by have:=(h4 a z).2.2.2;injection e with e;omega)).up c.size,fun a z=>⟨L_ (h4 a z).1 c.size,(h4 a z).2⟩⟩
theorem av3 {base:Nat} {w:World} {kv bv:Value} {ks:List Nat} {bs:List (List UInt8)} (h:Bods base w kv bv ks bs) (H:ks.length=bs.length) (U:0 < bs.length):
  ∃gk I J O,kv=.slice (some ⟨gk,0,none⟩) bs.length J/\bv=.slice (some ⟨I,0,none⟩) bs.length O:=by
 obtain⟨vs,Q,_⟩:=h.row
 rcases h.kinds.2 with ⟨_,h1⟩|⟨g,cap,cur,z,_⟩
 ·omega
 ·rcases Q.2 with ⟨_,h1⟩|⟨g2,o,E,C,_⟩
  ·omega
  ·exact⟨g,g2,cap,o,by rw[z,H],C⟩
theorem uq5 {base:Nat} {w:World} {gk z n E H:Nat} {ks:List Nat} {bs:List (List UInt8)} (h:Bods base w (.slice (some gk) n E) (.slice (some z) n H) ks bs) (Q:ks.length=bs.length) {k:Nat} (I:k < bs.length):
  ∃x A M c,ks[k]?=some x/\w.cell? (gk,k)=some (.int .i64 (x:Int))/\w.cell? (z,k)=some (.slice A M c)/\M<=c/\Row w w A M 1 (bts bs[k]):=by
 obtain⟨vs,J,O⟩:=h.row;obtain⟨A,M,c,e,h1,h2,h3,_⟩:=O k I;have C:=h.kinds;have o:ks[k]?=some ks[k]:=j_ o_;have c1:=C.cells (g:=gk) rfl k (.int .i64 ((ks[k]:Nat):Int)) (by simp[i64v,o]);have c2:=J.cells (g:=z) rfl k _ e;rw[vv2]at c1 c2;exact⟨ks[k],A,M,c,o,c1,c2,h1,h3⟩
theorem lt_of_cell {w:World} {b o:Nat} {v:Value} (h:w.cell? (b,o)=some v):b < (w:Nat):=by
 by_cases z:b < (w:Nat)
 ·exact z
 ·simp[World.cell?,z]at h
section
end
section
end
section
end
end Go.Proofs.YtfbkjjdfboagfaaGreatDoor
