/- Texts FrameA, FrameB, Split, Reader, EditA, EditB, EditC, EditG, EditH in one. No conditions. -/
import Derived.Test.YthjdpplgfdihoaaGreatDoorBunAB
import Derived.Test.YthjdpplgfdihoaaGreatDoorBunAC
import Derived.Test.YthjdpplgfdihoaaGreatDoorBunAD
import Derived.StillTailTactics

set_option linter.unusedSimpArgs false
set_option linter.unusedVariables false
set_option maxRecDepth 100000
set_option maxHeartbeats 16000000
namespace Go.Proofs.YthjdpplgfdihoaaGreatDoor
section
open Go.RowKit Go.Shelf
theorem ox4 (n:Nat) (hn:n≤1073741824) (w:World):
  Calls Tryz.prog 342 #[.slice none 0 0,.int .i64 (n:Int)] w fun e w'=>∃A c,e=.returned (.slice A 0 c)∧w'.ownsRow w.heap.size 5 1 (.slice A 0 c) 0 []∧Below w.heap.size w w':=by
 obtain⟨i0,hi0,hz0,hz1,hz2⟩:=info_parts eq1
 rcases ad_ n with h0|h0
 ·subst h0
  have h:=Any8.slices_Grow_room Tryz.grow121 none 0 0 0 w l_ (by omega) (by omega) (by omega);refine Calls.mono h ?_;rintro e w' ⟨rfl,rfl⟩;exact⟨none,0,rfl,E_ _ _ _ _,Below.refl _ _⟩
 ·have h:=Any8.slices_Grow_grow Tryz.grow121 i0 (.int .u8 0) hi0 hz0 (by omega) none 0 0 n [] w l_ (by omega) (by rw[hz2];omega) (by omega) (by simp) (fun _=>rfl) (fun a h=>by cases h)
  refine Calls.mono h ?_;rintro e w' ⟨rfl,rfl⟩;have hg:=grownCap_ge w (0+n) 0 5;have hg2:=grownCap_le_maxLen w (0+n) 0 5 (by unfold maxLen;omega);refine⟨_,_,rfl,⟨by simp,.inr ⟨w.heap.size,_,_,rfl,x_ _,heap_alloc_new w.drew _,t_ _,hg2,?_,by simp⟩⟩,((Below.refl w.heap.size w).drew).alloc l_ _⟩;change _=grownCap w (0+n) 0 5 *1;have hc:(Value.int IntKind.u8 0).cells.size=1:=rfl;simp only[bO_,Builtin.zeroCells,Array.size_map,Array.size_range,hc];change 0+(0+n - 0)*1+(grownCap w (0+n) 0 5 - (0+n))*1=_;omega
theorem xw2 {ls:List (List UInt8)} {k:Nat} (hl:k < ls.length):(ls.take (k+1)).flatten=(ls.take k).flatten++ls[k]:=by
 have h:=(aC_ hl).symm;rw[h,be_];simp
theorem cq4 {ls:List (List UInt8)} (k:Nat):(ls.take k).flatten.length≤ls.flatten.length:=by
 conv=>rhs;rw[←aa_ k ls,be_,e_]
 omega
theorem rj3 (P:Option Addr) (n c:Nat) (ls:List (List UInt8)) (w:World) (hn:n≤1073741824) (hbig:ls.flatten.length≤1073741824) (hr:ov2 w.heap.size w P n ls):
  Calls Tryz.prog 307 #[.slice P n c] w fun e w'=>∃A' c',e=.returned (.slice A' ls.flatten.length c')∧
   w'.ownsRow w.heap.size 5 1 (.slice A' ls.flatten.length c') ls.flatten.length (bts ls.flatten)∧ls.flatten.length≤c'∧c'≤maxLen∧Below w.heap.size w w':=by
 obtain⟨i0,hi0,hz0,hz1,hz2⟩:=info_parts eq1;have hlen:ls.length=n:=by obtain⟨_,_,h,_⟩:=hr;exact h
 obtain⟨F,hF⟩:=n_ ls.flatten.length;have HF:=H_ hF;have HB:=H_ hbig;rw[←hF]at hbig ⊢;clear hF;go_enter Tryz.func307,Tryz.ntmps307;go_wp2
 go_loop [3,11] (fun x i=>∃k:Nat,k≤n∧i=.int .i64 (k:Int)∧x=.int .i64 (((ls.take k).flatten.length:Nat):Int)) (fun _ i=>n - (intOf i).toNat)
 case atStart=>exact⟨0,t_ _,rfl,rfl⟩
 case round=>
  obtain⟨k,hk,rfl,rfl⟩:=hrel
  by_cases hlt:k < n
  ·obtain⟨a,A,k',c',hl,rfl,_,hc,hkc,hcm,hr2⟩:=hr.at_ hlt
   have ht:=xw2 hl;have hb1:=cq4 (ls:=ls) (k+1);have e1:(ls.take (k+1)).flatten.length=(ls.take k).flatten.length+k':=by rw[ht,e_,hr2.xk]
   have hb2:(ls.take k).flatten.length+k'≤1073741824:=by
    have h:ls.flatten.length≤1073741824:=HB;omega
   have E1:=H_ e1;clear ht hb1 e1;generalize (ls.take k).flatten.length=L at *;have hge:((L:Int)+(k':Int) < 0)=False:=by simp;omega
   go_wp2
   go_round
   case rel=>exact⟨k+1,by omega,by go_num,by have e1:(ls.take (k+1)).flatten.length=L+k':=E1;rw[e1];go_num⟩
   case measure=>simp[intOf];omega
  ·obtain rfl:k=n:=by omega
   have e1:(ls.take k).flatten.length=F:=by
    have h:F=ls.flatten.length:=HF;rw[i_ (by omega),h]
   rw[e1];clear e1;go_wp2_with fail;refine(ox4 F hbig w).mono ?_;rintro e w1 ⟨A1,c1,rfl,ho1,hb1⟩;go_wp2
   go_loopw [6,27] (fun o i wr=>∃(j:Nat) (A':Option Addr) (M c':Nat),j≤k∧o=.slice A' M c'∧i=.int .i64 (j:Int)∧wr.ownsRow w.heap.size 5 1 (.slice A' M c') M (bts (ls.take j).flatten)∧Below w.heap.size w wr) (fun _ i _=>k - (intOf i).toNat)
   case atStart=>exact⟨0,A1,0,c1,t_ _,rfl,rfl,by simpa [bts] using ho1,hb1⟩
   case round=>
    obtain⟨j,A',M,c',hj,rfl,rfl,hown,hb⟩:=hrel;have hML:M=(ls.take j).flatten.length:=by
     have h1:=hown.1;rw[pq]at h1;omega
    by_cases hjk:j < k
    ·obtain⟨a,A,k',c2,hl,rfl,hab,hc,hkc,hcm,hr2⟩:=(hr.below hb).at_ hjk
     have ht:=xw2 hl;have hb1:=cq4 (ls:=ls) (j+1);have hb2:M+k'≤1073741824:=by
      have h:ls.flatten.length≤1073741824:=HB;have e1:(ls.take (j+1)).flatten.length=(ls.take j).flatten.length+k':=by rw[ht,e_,hr2.xk]
      omega
     have hnew:bts (ls.take j).flatten++bts ls[j]=bts (ls.take (j+1)).flatten:=by rw[ht,tq1]
     have h1c:=xy ls[j];generalize bts ls[j]=X at *;generalize hY:bts (ls.take (j+1)).flatten=Y at *;generalize bts (ls.take j).flatten=Z at *;have HN:=H_ hnew;have HY:=H_ hY;clear hY hML ht hb1 hnew;go_wp2_with (at_builtin;refine iy ?_);refine gz (jq rfl (.tmp 31) (.tmp 32) _ rfl w.heap.size 5 i0 _ 1 1 Tryz.underlying56 hi0 hz0 hz1 hz2 rfl (by omega) w hb hb.size _ M Z rfl hown w.heap.size A k' c2 X rfl hr2 h1c (M+k') Y rfl HN (by unfold maxLen;omega) (by omega) ?_);intro A3 c3 w3 hown3 hb3 _ hc3 hm3;go_wp2;go_roundw
     case rel=>exact⟨j+1,A3,M+k',c3,by omega,rfl,by go_num,by have hY:bts (ls.take (j+1)).flatten=Y:=HY;rw[hY];exact hown3,hb3⟩
     case measure=>simp[intOf];omega
    ·obtain rfl:j=k:=by omega
     have e1:ls.take j=ls:=i_ (by omega);rw[e1]at hown hML;have h:F=ls.flatten.length:=HF;have hMF:M=F:=by omega
     subst hMF;obtain⟨A4,c4,e4,h5,h6,_⟩:=dw hown;injection e4 with e5 e6 e7;subst e5;subst e7;clear hML h e1;go_wp2;go_ret;exact⟨A',c',rfl,hown,h5,h6,hb⟩
theorem ky5 (w:World) (e:TypeId) (A1 A2 A3:Option Addr) (n1 n2 n3 c1 c2 c3:Nat) (l1 l2 l3:List UInt8) (h1:Row w.heap.size w A1 n1 1 (bts l1)) (h2:Row w.heap.size w A2 n2 1 (bts l2)) (h3:Row w.heap.size w A3 n3 1 (bts l3))
  (k1:n1≤c1) (k2:n2≤c2) (k3:n3≤c3) (m1:c1≤maxLen) (m2:c2≤maxLen) (m3:c3≤maxLen):
  ov2 (w.alloc (.cells #[.slice A1 n1 c1,.slice A2 n2 c2,.slice A3 n3 c3] e)).heap.size (w.alloc (.cells #[.slice A1 n1 c1,.slice A2 n2 c2,.slice A3 n3 c3] e)) (some ⟨w.heap.size,0,none⟩) 3 [l1,l2,l3]:=by
 refine⟨_,(Row.new w #[.slice A1 n1 c1,.slice A2 n2 c2,.slice A3 n3 c3] e (n:=3) (size:=1) rfl).up (by simp),rfl,fun i hi=>?_⟩
 rcases i with _|_|_|i
 ·exact⟨A1,n1,c1,rfl,k1,m1,(h1.alloc l_ _).up (by simp)⟩
 ·exact⟨A2,n2,c2,rfl,k2,m2,(h2.alloc l_ _).up (by simp)⟩
 ·exact⟨A3,n3,c3,rfl,k3,m3,(h3.alloc l_ _).up (by simp)⟩
 ·simp at hi
  omega
theorem kq4 (w:World) (e:TypeId) (k n:Nat) (hk:k < 256) (hn:n≤60000):Row (w.alloc (.cells #[.int .u8 (k:Int),.int .u8 ((n:Int) / 65536),.int .u8 ((n:Int) / 256),.int .u8 ((n:Int) % 256)] e)).heap.size
  (w.alloc (.cells #[.int .u8 (k:Int),.int .u8 ((n:Int) / 65536),.int .u8 ((n:Int) / 256),.int .u8 ((n:Int) % 256)] e)) (some ⟨w.heap.size,0,none⟩) 4 1 (bts (Fr.head k n)):=by
 have h:=(Row.new w #[.int .u8 (k:Int),.int .u8 ((n:Int) / 65536),.int .u8 ((n:Int) / 256),.int .u8 ((n:Int) % 256)] e (n:=4) (size:=1) rfl).up (B':=(w.alloc (.cells #[.int .u8 (k:Int),.int .u8 ((n:Int) / 65536),.int .u8 ((n:Int) / 256),.int .u8 ((n:Int) % 256)] e)).heap.size) (by simp);have e1:bts (Fr.head k n)=[.int .u8 (k:Int),.int .u8 ((n:Int) / 65536),.int .u8 ((n:Int) / 256),.int .u8 ((n:Int) % 256)]:=by
  simp only[bts,Fr.head,aw_,bb_,UInt8.toNat_ofNat',Nat.reducePow];rw[show ((k % 256:Nat):Int)=(k:Int) from by omega,show ((n / 65536 % 256:Nat):Int)=(n:Int) / 65536 from by omega,show ((n / 256 % 256:Nat):Int)=(n:Int) / 256 from by omega,show ((n % 256:Nat):Int)=(n:Int) % 256 from by omega]
 rw[e1];exact h
theorem iv1 (A:Option Addr) (N c:Nat) (l:List UInt8) (k:Nat) (B:Option Addr) (M d:Nat) (m:List UInt8) (w:World) (hN:N≤500000000) (hNc:N≤c) (hc:c≤maxLen) (hr:Row w.heap.size w A N 1 (bts l))
  (h1:1≤k) (h2:k≤100) (hM:M≤60000) (hMd:M≤d) (hd:d≤maxLen) (hq:Row w.heap.size w B M 1 (bts m)):
  Calls Tryz.prog 250 #[.slice A N c,.int .i64 (k:Int),.slice B M d] w fun e w'=>∃A' K c',e=.returned (.tuple #[.slice A' K c',.int .i64 0])∧
   w'.ownsRow w.heap.size 5 1 (.slice A' K c') K (bts (l++Fr.put k m))∧K≤c'∧c'≤maxLen∧Below w.heap.size w w':=by
 have a1:((k:Int) < 1)=False:=by simp;omega
 have a2:((100:Int) < (k:Int))=False:=by simp;omega
 have a3:((60000:Int) < (M:Int))=False:=by simp;omega
 go_enter Tryz.func250,Tryz.ntmps250;go_wp2_with fail;refine(wj1 _ 4 4 (Fr.head k M) _ l_ (by decide) (by omega) (kq4 w _ k M (by omega) hM)).mono ?_;rintro e w1 ⟨A1,c1,rfl,ho1,hc1,hm1,hb1⟩;have hb1':=az (b_ w _) hb1;have ho1':=Row.own ho1;clear ho1 hb1;have hr1:=(hr.below hb1').up hb1'.size;have hq1:=(hq.below hb1').up hb1'.size;go_wp2_with fail;refine(wj1 B M d m w1 hMd hd (by omega) hq1).mono ?_;rintro e w2 ⟨A2,c2,rfl,ho2,hc2,hm2,hb2⟩;have hb2':=az hb1' hb2;have ho2':=Row.own ho2;have hr2:=(hr1.below hb2).up hb2.size;have ho12:=(ho1'.below hb2).up hb2.size;have hb1:=hb1';clear ho2 hb2 hb1';have hfl:[l,Crc.ny (Fr.head k M),Crc.ny m].flatten=l++Fr.put k m:=by simp[Fr.put,hq.xk]
 have hl1:=hr.xk;have hl2:(l++Fr.put k m).length≤1073741824:=by
  rw[e_,Fr.uj,hq.xk];omega
 have HL:=H_ hl2;have HF:=H_ hfl;have hrows:=ky5 w2 56 A A1 A2 N (4+4) (M+4) c c1 c2 l _ _ hr2 ho12 ho2' hNc hc1 hc2 hc hm1 hm2;clear hl2 hfl;go_wp2_with fail;refine(rj3 _ 3 3 _ _ (by omega) (by have h:[l,Crc.ny (Fr.head k M),Crc.ny m].flatten=l++Fr.put k m:=HF;rw[h];exact HL) hrows).mono ?_;rintro e w3 ⟨A3,c3,rfl,ho3,hc3,hm3,hb3⟩;have hfl:[l,Crc.ny (Fr.head k M),Crc.ny m].flatten=l++Fr.put k m:=HF;rw[hfl]at ho3 hc3 ⊢;have hb:=az (hb2'.alloc hb2'.size _) hb3;have ho:=own_base ho3 (h_ hb2'.size (by simp):w.heap.size≤(w2.alloc _).heap.size);generalize (l++Fr.put k m).length=K at *;clear ho3 hb3 hfl;go_wp2;go_ret2;exact⟨A3,K,c3,rfl,ho,hc3,hm3,hb⟩
end
section
open Go.RowKit
theorem mz3 (l:List UInt8) (k:Nat) (hk:k < (l.take 4).length):Fr.u l k=((l.take 4)[k]).toNat:=by
 have h:k < l.length:=by rw[u_]at hk;omega
 simp[Fr.u,h]
theorem head4 {w:World} {B g:Nat} {l:List UInt8} (h:Row B w (some ⟨g,0,none⟩) 4 1 (bts (l.take 4))):∃x0 x1 x2 x3:UInt8,w.cell? ⟨g,0,none⟩=some (.int .u8 (x0.toNat:Int))∧w.cell? ⟨g,1,none⟩=some (.int .u8 (x1.toNat:Int))∧
  w.cell? ⟨g,2,none⟩=some (.int .u8 (x2.toNat:Int))∧w.cell? ⟨g,3,none⟩=some (.int .u8 (x3.toNat:Int))∧Fr.u l 0=x0.toNat∧Fr.size l=x1.toNat *65536+x2.toNat *256+x3.toNat:=by
 obtain⟨a0,h0,e0,_,c0⟩:=h.bt (k:=0) (by omega);obtain⟨a1,h1,e1,_,c1⟩:=h.bt (k:=1) (by omega);obtain⟨a2,h2,e2,_,c2⟩:=h.bt (k:=2) (by omega);obtain⟨a3,h3,e3,_,c3⟩:=h.bt (k:=3) (by omega);injection e0 with e0;injection e1 with e1;injection e2 with e2;injection e3 with e3;subst e0;subst e1;subst e2;subst e3;exact⟨_,_,_,_,c0,c1,c2,c3,mz3 l 0 h0,by rw[Fr.size,mz3 l 1 h1,mz3 l 2 h2,mz3 l 3 h3]⟩
theorem vv4 (m x k:Nat) (hx:x < 2 ^ k) (h:m *2 ^ k+x < 9223372036854775808):bits .or .i64 ((m *2 ^ k:Nat):Int) (x:Int)=((m *2 ^ k+x:Nat):Int):=by
 have e:BitVec.ofInt 64 ((m *2 ^ k:Nat):Int)|||BitVec.ofInt 64 (x:Int)=BitVec.ofNat 64 (m *2 ^ k+x):=by
  rw[BitVec.ofInt_natCast,BitVec.ofInt_natCast];apply BitVec.eq_of_toNat_eq;rw[BitVec.toNat_or,BitVec.toNat_ofNat,BitVec.toNat_ofNat,BitVec.toNat_ofNat,X_ (by omega),X_ (by omega),X_ (by omega),Nat.mul_comm m,Nat.two_pow_add_eq_or_of_lt hx]
 change IntKind.i64.wrap (((BitVec.ofInt 64 ((m *2 ^ k:Nat):Int)|||BitVec.ofInt 64 (x:Int)).toNat:Nat):Int)=_;rw[e,BitVec.toNat_ofNat,X_ (by omega),IntKind.wrap_i64];omega
theorem dw5 (a b c:UInt8):bits .or .i64 (bits .or .i64 ((a.toNat:Int)*65536) ((b.toNat:Int)*256)) (c.toNat:Int)=((a.toNat *65536+b.toNat *256+c.toNat:Nat):Int):=by
 have ha:a.toNat < 256:=a.toNat_lt;have hb:b.toNat < 256:=b.toNat_lt;have hc:c.toNat < 256:=c.toNat_lt;have h1:=vv4 a.toNat (b.toNat *256) 16 (by omega) (by omega);have h2:=vv4 (a.toNat *256+b.toNat) c.toNat 8 (by omega) (by omega);rw[show ((a.toNat:Int)*65536)=((a.toNat *2 ^ 16:Nat):Int) from by omega,show ((b.toNat:Int)*256)=((b.toNat *256:Nat):Int) from by omega,h1,
  show a.toNat *2 ^ 16+b.toNat *256=(a.toNat *256+b.toNat)*2 ^ 8 from by omega,h2]
theorem cv4 (A:Option Addr) (N c:Nat) (l:List UInt8) (p:Nat) (w:World) (hN:N≤1073741824) (hNc:N≤c) (hc:c≤maxLen) (hr:Row w.heap.size w A N 1 (bts l)) (hp:p≤N):
  Calls Tryz.prog 153 #[.slice A N c,.int .i64 (p:Int)] w fun e w'=>∃A' M c',e=.returned (.tuple #[.int .i64 ((Fr.take l p).1:Int),.slice A' M c',.int .i64 ((Fr.take l p).2.2.1:Int),.int .i64 ((Fr.take l p).2.2.2:Int)])∧
   w'.ownsRow w.heap.size 5 1 (.slice A' M c') M (bts (Fr.take l p).2.1)∧M≤c'∧c'≤maxLen∧Below w.heap.size w w':=by
 have hln:=hr.xk;have a1:((p:Int) < 0)=False:=by simp
 have a2:((N:Int) < (p:Int))=False:=by simp;omega
 obtain⟨res,hres0⟩:∃r,Fr.take l p=r:=⟨_,rfl⟩;rw[hres0];have HRES:=H_ hres0;clear hres0;obtain⟨A1,hA1⟩:∃A1,(if c=p then A else Option.map (fun x=>x.add p) A)=A1:=⟨_,rfl⟩;have hrest:Row w.heap.size w A1 (N - p) 1 (bts (l.drop p)):=by
  have h:=hr.cut (A':=A1) hp (x_ N) (fun hlt=>by rw[←hA1,if_neg (by omega),aW_]);rw[aW_,aW_,←mx2,←gz1]at h
  rwa [i_ (by rw[B_];omega)]at h
 by_cases h8:N - p < 8
 ·obtain rfl:res=(0,[],0,4):=by
   have hr0:Fr.take l p=res:=HRES;rw[←hr0];unfold Fr.take;rw[if_pos (by omega)]
  clear hrest;go_enter Tryz.func153,Tryz.ntmps153;go_wp2;exact bodyPost_ret (v:=.tuple #[.int .i64 0,.slice none 0 0,.int .i64 0,.int .i64 4]) (by simp[results,go_sem]) rfl ⟨none,0,0,rfl,E_ _ _ _ _,x_ _,t_ _,Below.refl _ _⟩
 ·obtain⟨a,rfl,hab⟩:=hr.some_ (by rw[pq];omega)
  have hA2:some (a.add p)=A1:=by rw[←hA1,if_neg (by omega)];rfl
  subst hA2;clear hA1;have hhead:Row w.heap.size w (some (a.add p)) 8 1 (bts ((l.drop p).take 8)):=by
   have h:=hrest.pre (m:=8) (by omega)
   rwa [aW_,←gz1]at h
  have h44:((l.drop p).take 8).take 4=(l.drop p).take 4:=by rw[aE_];rfl
  have hd8:((N - p:Nat):Int) < 8↔False:=by simp;omega
  by_cases hs1:Crc.ny ((l.drop p).take 4)=(l.drop p).take 8
  ·have hop:=ry2 (some (a.add p)) 8 (c - p) ((l.drop p).take 8) w (by omega) (by omega) (by omega) (by omega) hhead (by rw[show 8 - 4=4 from rfl,h44];simpa using hs1)
   rw[show 8 - 4=4 from rfl,h44]at hop;go_enter Tryz.func153,Tryz.ntmps153;go_wp2_with fail;refine hop.mono ?_;rintro e w1 ⟨A2,c2,rfl,ho1,hc1,hm1,hb1⟩;have hrest1:=(hrest.below hb1).up hb1.size;have hhd:=Row.own ho1;clear hop;obtain⟨g,rfl⟩:∃g,A2=some ⟨g,0,none⟩:=by
    rcases ho1.2 with ⟨_,h0⟩|⟨g,_,_,hv,_⟩
    ·cases h0
    ·injection hv with hv _ _
     exact⟨g,hv⟩
   obtain⟨x0,x1,x2,x3,d0,d1,d2,d3,hu,hsz⟩:=head4 hhd;have HU:=H_ hu;have HSZ:=H_ hsz;have hx0:x0.toNat < 256:=x0.toNat_lt;have hx1:x1.toNat < 256:=x1.toNat_lt;have hx2:x2.toNat < 256:=x2.toNat_lt;have hx3:x3.toNat < 256:=x3.toNat_lt;clear hu hsz;have hor:=dw5 x1 x2 x3;have hz:x1.toNat *65536+x2.toNat *256+x3.toNat < 16777216:=by omega
   generalize x1.toNat *65536+x2.toNat *256+x3.toNat=z at *;obtain⟨q,hq⟩:∃q,a.add p=q:=⟨_,rfl⟩;rw[hq]at hrest hhead hrest1;have hx0i:((x0.toNat:Nat):Int)=(x0.toNat:Int):=rfl;generalize x0.toNat=k at *
   by_cases hf:k < 1∨100 < k∨60000 < z
   ·obtain rfl:res=(0,[],0,3):=by
     have hr0:Fr.take l p=res:=HRES;rw[←hr0];have hu:Fr.u (l.drop p) 0=k:=HU;have hsz:Fr.size (l.drop p)=z:=HSZ;unfold Fr.take;rw[if_neg (by omega),if_neg (fun h=>h hs1),hu,hsz,if_pos hf]
    by_cases f1:k < 1
    ·have f1':((k:Int) < 1):=by omega
     go_wp2_with fail
     go_quiet (fail)
     go_wp2
     all_goals exact bodyPost_ret (v:=.tuple #[.int .i64 0,.slice none 0 0,.int .i64 0,.int .i64 3]) (by simp[results,go_sem]) rfl ⟨none,0,0,rfl,E_ _ _ _ _,x_ _,t_ _,below_drewN hb1 _⟩
    ·have f1':((k:Int) < 1)=False:=by simp;omega
     by_cases f2:100 < k
     ·have f2':((100:Int) < (k:Int)):=by omega
      go_wp2_with fail
      go_quiet (fail)
      go_wp2
      all_goals exact bodyPost_ret (v:=.tuple #[.int .i64 0,.slice none 0 0,.int .i64 0,.int .i64 3]) (by simp[results,go_sem]) rfl ⟨none,0,0,rfl,E_ _ _ _ _,x_ _,t_ _,below_drewN hb1 _⟩
     ·have f2':((100:Int) < (k:Int))=False:=by simp;omega
      have f3':((60000:Int) < (z:Int)):=by omega
      go_wp2_with fail
      go_quiet (fail)
      go_wp2
      all_goals exact bodyPost_ret (v:=.tuple #[.int .i64 0,.slice none 0 0,.int .i64 0,.int .i64 3]) (by simp[results,go_sem]) rfl ⟨none,0,0,rfl,E_ _ _ _ _,x_ _,t_ _,below_drewN hb1 _⟩
   ·have f1':((k:Int) < 1)=False:=by simp;omega
    have f2':((100:Int) < (k:Int))=False:=by simp;omega
    have f3':((60000:Int) < (z:Int))=False:=by simp;omega
    by_cases ht:N - p - 8 < z+4
    ·obtain rfl:res=(0,[],0,4):=by
      have hr0:Fr.take l p=res:=HRES;rw[←hr0];have hu:Fr.u (l.drop p) 0=k:=HU;have hsz:Fr.size (l.drop p)=z:=HSZ;unfold Fr.take;rw[if_neg (by omega),if_neg (fun h=>h hs1),hu,hsz,if_neg hf,if_pos (by omega)]
     have f4':(((N - p - 8:Nat):Int) < (z:Int)+4):=by omega
     go_wp2_with fail
     go_quiet (fail)
     go_wp2
     all_goals exact bodyPost_ret (v:=.tuple #[.int .i64 0,.slice none 0 0,.int .i64 0,.int .i64 4]) (by simp[results,go_sem]) rfl ⟨none,0,0,rfl,E_ _ _ _ _,x_ _,t_ _,below_drewN hb1 _⟩
    ·have f4':(((N - p - 8:Nat):Int) < (z:Int)+4)=False:=by simp;omega
     have hrest2:Row w1.heap.size w1 (some (q.add 8)) (N - p - 8) 1 (bts (l.drop (p+8))):=by
      have h:=hrest1.cut (A':=some (q.add 8)) (k:=8) (m:=N - p) (by omega) l_ (fun _=>rfl);rw[aW_,aW_,←mx2,←gz1,aG_]at h
      rwa [i_ (by rw[B_];omega)]at h
     have hbody:Row w1.heap.size w1 (some (q.add 8)) (z+4) 1 (bts ((l.drop (p+8)).take (z+4))):=by
      have h:=hrest2.pre (m:=z+4) (by omega)
      rwa [aW_,←gz1]at h
     have e8:q.add 8=⟨q.block,q.off+8,none⟩:=rfl;rw[e8]at hbody;have h44b:((l.drop (p+8)).take (z+4)).take z=(l.drop (p+8)).take z:=by rw[aE_,aH_ (by omega)]
     by_cases hs2:Crc.ny ((l.drop (p+8)).take z)=(l.drop (p+8)).take (z+4)
     ·obtain rfl:res=(k,(l.drop (p+8)).take z,p+8+z+4,0):=by
       have hr0:Fr.take l p=res:=HRES;rw[←hr0];have hu:Fr.u (l.drop p) 0=k:=HU;have hsz:Fr.size (l.drop p)=z:=HSZ;unfold Fr.take;rw[if_neg (by omega),if_neg (fun h=>h hs1),hu,hsz,if_neg hf,if_neg (by omega),if_neg (fun h=>h hs2)]
      have hop2:=fun nq=>ry2 (some ⟨q.block,q.off+8,none⟩) (z+4) (c - p - 8) ((l.drop (p+8)).take (z+4)) (w1.drewN nq) (by omega) (by omega) (by omega) (by omega) (hbody.drewN nq) (by rw[bI_,h44b];simpa using hs2);rw[bI_,h44b]at hop2;clear hs1 hs2 h44 h44b;go_wp2_with fail
      go_quiet (fail)
      go_wp2_with fail;refine(hop2 _).mono ?_;rintro e w2 ⟨A4,c4,rfl,ho4,hc4,hm4,hb4⟩;have hb:=az (below_drewN hb1 nq) hb4;have ho:=own_base ho4 (hb1.size:w.heap.size≤(w1.drewN nq).heap.size);clear hop2 hb4 ho4 hbody hrest2 hrest1 hhd;go_wp2;refine bodyPost_ret (v:=.tuple #[.int .i64 (k:Int),.slice A4 z c4,.int .i64 ((p:Int)+4+4+(z:Int)+4),.int .i64 0]) (by simp[results,go_sem]) rfl ⟨A4,z,c4,?_,ho,hc4,hm4,hb⟩;have e5:(p:Int)+4+4+(z:Int)+4=((p+8+z+4:Nat):Int):=by omega
      rw[e5];rfl
     ·obtain rfl:res=(0,[],0,5):=by
       have hr0:Fr.take l p=res:=HRES;rw[←hr0];have hu:Fr.u (l.drop p) 0=k:=HU;have hsz:Fr.size (l.drop p)=z:=HSZ;unfold Fr.take;rw[if_neg (by omega),if_neg (fun h=>h hs1),hu,hsz,if_neg hf,if_neg (by omega),if_pos hs2]
      have hop2:=fun nq=>jy3 (some ⟨q.block,q.off+8,none⟩) (z+4) (c - p - 8) ((l.drop (p+8)).take (z+4)) (w1.drewN nq) (by omega) (by omega) (by omega) (by omega) (hbody.drewN nq) (by rw[bI_,h44b];simpa using hs2);clear hs1 hs2 h44 h44b;go_wp2_with fail
      go_quiet (fail)
      go_wp2_with fail;refine(hop2 _).mono ?_;rintro e w2 ⟨rfl,hb4⟩;have hb:=az (below_drewN hb1 nq) hb4;clear hop2 hb4 hbody hrest2 hrest1 hhd;go_wp2;exact bodyPost_ret (v:=.tuple #[.int .i64 0,.slice none 0 0,.int .i64 0,.int .i64 5]) (by simp[results,go_sem]) rfl ⟨none,0,0,rfl,E_ _ _ _ _,x_ _,t_ _,hb⟩
  ·have hop:=jy3 (some (a.add p)) 8 (c - p) ((l.drop p).take 8) w (by omega) (by omega) (by omega) (by omega) hhead (by rw[show 8 - 4=4 from rfl,h44];simpa using hs1)
   obtain rfl:res=(0,[],0,5):=by
    have hr0:Fr.take l p=res:=HRES;rw[←hr0];unfold Fr.take;rw[if_neg (by omega),if_pos hs1]
   go_enter Tryz.func153,Tryz.ntmps153;go_wp2_with fail;refine hop.mono ?_;rintro e w1 ⟨rfl,hb1⟩;clear hop;go_wp2;exact bodyPost_ret (v:=.tuple #[.int .i64 0,.slice none 0 0,.int .i64 0,.int .i64 5]) (by simp[results,go_sem]) rfl ⟨none,0,0,rfl,E_ _ _ _ _,x_ _,t_ _,hb1⟩
end
section
open Go.RowKit
def i64v (ks:List Nat):List Value:=ks.map fun k:Nat=>.int .i64 (k:Int)
theorem zv3 (ks:List Nat) (k:Nat):i64v ks++[.int .i64 (k:Int)]=i64v (ks++[k]):=by simp[i64v]
theorem lk4:(Tryz.prog.info? 3).map (fun i=>(i.zero,i.size,i.bytes))=some (some (.int .i64 0),1,8):=by kernel_rfl
variable {base:Nat} {w w':World} {kv bv:Value} {ks:List Nat} {bs:List (List UInt8)}
end
section
open Go.RowKit
end
section
open Go.RowKit
def bigs (ns:List Nat):Bool:=ns.any fun n=>decide (281474976710656 < n)
theorem gj4 (n:Nat) (w:World):Calls Tryz.prog 330 #[.int .u64 (n:Int)] w fun e w'=>e=.returned (.bool (decide ((281474976710656:Int) < (n:Int))))∧w=w':=by
 go_enter Tryz.func330,Tryz.ntmps330;go_wp2;go_ret;exact⟨rfl,rfl⟩
theorem aw4 {ns:List Nat} {k:Nat} (hl:k < ns.length):bigs (ns.take (k+1))=(bigs (ns.take k)||decide (281474976710656 < ns[k])):=by
 have h:=(aC_ hl).symm;unfold bigs;rw[h,List.any_append];simp
theorem yw4 {ns:List Nat} {k:Nat} (hl:k < ns.length) (h:281474976710656 < ns[k]):bigs ns=true:=by
 unfold bigs;rw[aO_];exact⟨ns[k],v_ hl,by simpa using h⟩
theorem tj4 (A:Option Addr) (n c:Nat) (ns:List Nat) (w:World) (hn:n≤1000) (hr:Row w.heap.size w A n 1 (u64v ns)):
  Calls Tryz.prog 355 #[.slice A n c,.func (.func 330) #[] #[]] w fun e w'=>(∃i:Int,e=.returned (.int .i64 i)∧decide (0≤i)=bigs ns)∧w=w':=by
 have hnn:=hr.hj5;go_enter Tryz.func355,Tryz.ntmps355;go_wp2
 go_loop [8] (fun i=>∃k:Nat,k≤n∧i=.int .i64 (k:Int)∧Hid (bigs (ns.take k)=false)) (fun i=>n - (intOf i).toNat)
 case atStart=>exact⟨0,t_ _,rfl,H_ rfl⟩
 case round=>
  obtain⟨k,hk,rfl,hb⟩:=hrel
  by_cases hlt:k < n
  ·obtain⟨a,hl,rfl,_,hc⟩:=hr.un hlt
   have ht:=aw4 hl;have hof:=yw4 hl;generalize ns[k]=x at *;have HT:=H_ ht;clear ht
   by_cases hx:281474976710656 < x
   ·have HO:=H_ (hof hx)
    have hx':(281474976710656:Int) < (x:Int):=by omega
    clear hof;go_wp2_with fail;refine(gj4 x w).mono ?_;rintro e w1 ⟨rfl,rfl⟩;go_wp2;go_ret;exact⟨⟨k,rfl,by have h:bigs ns=true:=HO;rw[h];simp⟩,rfl⟩
   ·have hx':((281474976710656:Int) < (x:Int))=False:=by simp;omega
    clear hof;go_wp2_with fail;refine(gj4 x w).mono ?_;rintro e w1 ⟨rfl,rfl⟩;go_wp2
    go_round
    case rel=>
     refine⟨k+1,by omega,by go_num,H_ ?_⟩;have ht:bigs (ns.take (k+1))=(bigs (ns.take k)||decide (281474976710656 < x)):=HT;have hb':bigs (ns.take k)=false:=hb;rw[ht,hb'];simpa using hx
    case measure=>simp[intOf];omega
  ·have hall:bigs ns=false:=by
    have hb':bigs (ns.take k)=false:=hb
    rwa [i_ (by omega)]at hb'
   have HA:=H_ hall;clear hall;go_wp2;go_ret;exact⟨⟨-1,rfl,by have h:bigs ns=false:=HA;rw[h];rfl⟩,rfl⟩
theorem uq4 (A:Option Addr) (n c:Nat) (ns:List Nat) (w:World) (hn:n≤1000) (hr:Row w.heap.size w A n 1 (u64v ns)):
  Calls Tryz.prog 329 #[.slice A n c,.func (.func 330) #[] #[]] w fun e w'=>e=.returned (.bool (bigs ns))∧w=w':=by
 go_enter Tryz.func329,Tryz.ntmps329;go_wp2_with fail;refine(tj4 A n c ns w hn hr).mono ?_;rintro e w' ⟨⟨i,rfl,hi⟩,rfl⟩;have HI:=H_ hi;clear hi;go_wp2;go_ret;refine⟨?_,rfl⟩;have hi:decide (0≤i)=bigs ns:=HI;rw[←hi];rfl
theorem kx2 (A:Option Addr) (n c:Nat) (ns:List Nat) (w:World) (hn:n≤1000) (hr:Row w.heap.size w A n 1 (u64v ns)):
  Calls Tryz.prog 284 #[.slice A n c] w fun e w'=>e=.returned (.bool (!bigs ns))∧w=w':=by
 go_enter Tryz.func284,Tryz.ntmps284;go_wp2_with fail;refine(uq4 A n c ns w hn hr).mono ?_;rintro e w' ⟨rfl,rfl⟩;go_wp2;go_ret;exact⟨rfl,rfl⟩
end
section
open Go.RowKit
theorem sx4 (g t:Nat):(⟨g,0,none⟩:Addr).add t=⟨g,t,none⟩:=by
 unfold Addr.add;split
 ·subst_vars;rfl
 ·simp
theorem pq2 (w:World) (e:TypeId) (cs:Array Value) (ns:List Nat) (n:Nat) (h:cs.toList=u64v ns) (hn:ns.length=n):Row (w.alloc (.cells cs e)).heap.size (w.alloc (.cells cs e)) (some ⟨w.heap.size,0,none⟩) n 1 (u64v ns):=by
 have h1:=(Row.new w cs e (n:=n) (size:=1) (by rw[←Array.length_toList,h];simp[u64v,hn])).up (B':=(w.alloc (.cells cs e)).heap.size) (by simp)
 rwa [h]at h1
end
section
open Go.RowKit
end
section
open Go Go.RowKit
def ax (fs:List (Int×Int)):List Value:=fs.flatMap fun f=>[.int .i64 f.1,.int .i64 f.2]
theorem fy1 (fs:List (Int×Int)):(ax fs).length=fs.length *2:=by
 induction fs with
 |nil=>rfl
 |cons f t ih=>simp only[ax,M_,e_,r_]at ih ⊢;simp only[R_]at *;omega
theorem rv1 (a b:List (Int×Int)):ax (a++b)=ax a++ax b:=by simp[ax]
theorem dq1 (fs:List (Int×Int)):∀u∈ax fs,u.oneCell'=true:=by
 intro u hu;obtain⟨f,_,h⟩:=O_.1 hu;simp at h
 rcases h with rfl|rfl<;>rfl
theorem fw2:∀(fs:List (Int×Int)) (k:Nat) (hk:k < fs.length),(ax fs)[k *2]?=some (.int .i64 (fs[k]).1)∧(ax fs)[k *2+1]?=some (.int .i64 (fs[k]).2)
 |f::t,0,_=>by simp[ax]
 |f::t,k+1,hk=>by
  have ih:=fw2 t k (by simpa using hk);have e:ax (f::t)=.int .i64 f.1::.int .i64 f.2::ax t:=by simp[ax]
  rw[e,show (k+1)*2=k *2+1+1 by omega,show k *2+1+1+1=(k *2+1)+1+1 by omega];simpa using ih
theorem ij1:∀(fs:List (Int×Int)) (k:Nat),ax (fs.take k)=(ax fs).take (k *2)
 |fs,0=>by simp[ax]
 |[],k+1=>by simp[ax]
 |f::t,k+1=>by
  have ih:=ij1 t k;have e:∀t,ax (f::t)=.int .i64 f.1::.int .i64 f.2::ax t:=fun t=>by simp[ax]
  rw[bX_,e,e,ih,show (k+1)*2=k *2+1+1 by omega];simp
theorem cx3 (fs:List (Int×Int)) (k:Nat):ax (fs.drop k)=(ax fs).drop (k *2):=by
 have h1:=rv1 (fs.take k) (fs.drop k);rw[aa_,ij1]at h1;have h2:=aa_ (k *2) (ax fs);rw[h1]at h2;rw[←h1]at h2;exact(List.append_cancel_left (h2.trans h1)).symm
structure FAt (B:Nat) (w:World) (a:Addr) (k:Nat) (f:Int×Int):Prop where
 blk:a.block < B
 c0:w.cell? (a.add (k *2))=some (.int .i64 f.1)
 c1:w.cell? ⟨(a.add (k *2)).block,(a.add (k *2)).off+1,none⟩=some (.int .i64 f.2)
theorem xw4 (a:Addr) (k:Nat) {j:Nat} (hj:0 < j):a.add (k+j)=⟨(a.add k).block,(a.add k).off+j,none⟩:=by
 rw[←xx1,Addr.add,if_neg (by omega)]
variable {B n:Nat} {w w':World} {A:Option Addr} {fs:List (Int×Int)}
theorem Row.flen (h:Row B w A n 2 (ax fs)):fs.length=n:=by
 have:=h.len;rw[fy1]at this;omega
theorem Row.file (h:Row B w A n 2 (ax fs)) {k:Nat} (hk:k < n):∃a,∃hl:k < fs.length,A=some a∧FAt B w a k fs[k]:=by
 have hl:k < fs.length:=by have:=h.flen;omega
 have hlen:=fy1 fs;obtain⟨g0,g1⟩:=fw2 fs k hl;obtain⟨a,e,hb,c0⟩:=h.cell (k *2) (by omega);obtain⟨a',e',_,c1⟩:=h.cell (k *2+1) (by omega);rw[e]at e';injection e' with e';subst e';rw[j_ (by omega)]at g0 g1;injection g0 with g0;injection g1 with g1;rw[g0]at c0;rw[g1,xw4 a (k *2) (by omega)]at c1;exact⟨a,hl,e,hb,c0,c1⟩
def vk (ns:List Int):List Value:=ns.map fun n=>.int .i64 n
theorem sv3 (ns:List Int) (k:Nat):(vk ns)[k]?=(ns[k]?).map fun n=>.int .i64 n:=by simp[vk]
theorem Row.ilen {ns:List Int} (h:Row B w A n 1 (vk ns)):ns.length=n:=by
 have:=h.len;simp[vk]at this;omega
theorem Row.int_ {ns:List Int} (h:Row B w A n 1 (vk ns)) {k:Nat} (hk:k < n):∃a,∃hl:k < ns.length,A=some a∧a.block < B∧w.cell? (a.add k)=some (.int .i64 ns[k]):=by
 obtain⟨a,v,e,hb,hv,hc⟩:=h.at1 hk;have hl:k < ns.length:=by have:=h.ilen;omega
 rw[sv3,j_ hl]at hv;injection hv with hv;subst hv;exact⟨a,hl,e,hb,hc⟩
theorem qw1 (n:Int) (w:World):Calls Tryz.prog 283 #[.int .i64 n] w fun e w'=>e=.returned (.bool (isNum n))∧w=w':=by
 obtain⟨b,hb⟩:=n_ (isNum n);rw[←hb];unfold isNum at hb;have HB:=H_ hb;clear hb;go_enter Tryz.func283,Tryz.ntmps283
 by_cases h1:1≤n
 ·by_cases h2:n≤1073741824
  ·go_wp2
   go_ret;exact⟨by rw[HB.out];simp[h1,h2],rfl⟩
  ·go_wp2
   go_ret;exact⟨by rw[HB.out];simp[h2],rfl⟩
 ·go_wp2
  go_ret;exact⟨by rw[HB.out];simp;omega,rfl⟩
theorem dy2 (f:Int×Int) (w:World):Calls Tryz.prog 285 #[.agg #[.int .i64 f.1,.int .i64 f.2]] w fun e w'=>e=.returned (.bool (wz f))∧Below w.heap.size w w':=by
 obtain⟨l,n⟩:=f;obtain⟨b,hb⟩:=n_ (wz (l,n));rw[←hb];unfold wz at hb;simp only at hb ⊢
 cases hn:isNum n with
 |false=>
  rw[hn]at hb;have hq:=qw1 n;rw[hn]at hq;have HB:=H_ hb;clear hb hn;go_enter Tryz.func285,Tryz.ntmps285;go_wp2_with fail;refine(hq _).mono ?_;rintro e w1 ⟨rfl,rfl⟩;go_wp2;go_ret;exact⟨by rw[HB.out];rfl,b_ _ _⟩
 |true=>
  rw[hn]at hb;have hq:=qw1 n;rw[hn]at hq;have HB:=H_ hb;clear hb hn
  by_cases h1:0≤l
  ·by_cases h2:l≤3
   ·go_enter Tryz.func285,Tryz.ntmps285
    go_wp2_with fail;refine(hq _).mono ?_;rintro e w1 ⟨rfl,rfl⟩;go_wp2;go_ret;exact⟨by rw[HB.out];simp[h1,h2],b_ _ _⟩
   ·go_enter Tryz.func285,Tryz.ntmps285
    go_wp2_with fail;refine(hq _).mono ?_;rintro e w1 ⟨rfl,rfl⟩;go_wp2;go_ret;exact⟨by rw[HB.out];simp;omega,b_ _ _⟩
  ·go_enter Tryz.func285,Tryz.ntmps285
   go_wp2_with fail;refine(hq _).mono ?_;rintro e w1 ⟨rfl,rfl⟩;go_wp2;go_ret;exact⟨by rw[HB.out];simp;omega,b_ _ _⟩
theorem aq5 (f:Int×Int) (b:Nat) (m:Int) (w:World) (hc:w.cell? ⟨b,1,none⟩=some (.int .i64 m)):
  Calls Tryz.prog 287 #[.agg #[.int .i64 f.1,.int .i64 f.2],.pointer (some ⟨b,0,none⟩)] w fun e w'=>e=.returned (.bool (f.2==m))∧Below w.heap.size w w':=by
 have hc1:∀o,(w.alloc o).cell? ⟨b,1,none⟩=some (.int .i64 m):=fun o=>(af_ w o _ (V_ w _ hc)).trans hc;go_enter Tryz.func287,Tryz.ntmps287;go_wp2;go_ret;exact⟨rfl,b_ _ _⟩
theorem zy4 (f:Int×Int) (p:Addr) (m:Int) (w:World) (hc:w.cell? p=some (.int .i64 m)):
  Calls Tryz.prog 293 #[.agg #[.int .i64 f.1,.int .i64 f.2],.pointer (some p)] w fun e w'=>e=.returned (.bool (f.2==m))∧Below w.heap.size w w':=by
 have hc1:∀o,(w.alloc o).cell? p=some (.int .i64 m):=fun o=>(af_ w o _ (V_ w _ hc)).trans hc;go_enter Tryz.func293,Tryz.ntmps293;go_wp2;go_ret;exact⟨rfl,b_ _ _⟩
theorem pz4 (f:Int×Int) (w:World):Calls Tryz.prog 334 #[.agg #[.int .i64 f.1,.int .i64 f.2]] w fun e w'=>e=.returned (.bool (!wz f))∧Below w.heap.size w w':=by
 go_enter Tryz.func334,Tryz.ntmps334;go_wp2_with fail;refine(dy2 f _).mono ?_;rintro e w1 ⟨rfl,hb⟩;go_wp2;go_ret;exact⟨rfl,az (b_ _ _) hb⟩
theorem mq4 (n:Int) (w:World):Calls Tryz.prog 333 #[.int .i64 n] w fun e w'=>e=.returned (.bool (!isNum n))∧w=w':=by
 go_enter Tryz.func333,Tryz.ntmps333;go_wp2_with fail;refine(qw1 n _).mono ?_;rintro e w1 ⟨rfl,rfl⟩;go_wp2;go_ret;exact⟨rfl,rfl⟩
theorem uy1 {k:IntKind} {a b:Int} (h:a=b):Ending.returned (.int k a)=.returned (.int k b):=by rw[h]
theorem ix1 {a b:Bool} (h:a=b):Ending.returned (.bool a)=.returned (.bool b):=by rw[h]
def fidx {α:Type} (P:α→Bool) (l:List α):Int:=if l.any P=true then (l.findIdx P:Int) else -1
theorem zq {α:Type} {P:α→Bool} {l:List α} (h:l.any P=false):fidx P l=-1:=by unfold fidx;rw[h];rfl
theorem mz1 {α:Type} {P:α→Bool} {l:List α} {k:Nat} (h:k < l.length):(l.take (k+1)).any P=((l.take k).any P||P l[k]):=by
 rw[o_ h,List.any_append];simp
theorem fw1 {α:Type} {P:α→Bool} {l:List α} {k:Nat} (hl:k < l.length) (h0:(l.take k).any P=false) (h1:P l[k]=true):fidx P l=(k:Int):=by
 unfold fidx;rw[if_pos (aO_.2 ⟨_,v_ hl,h1⟩)]
 congr 1
 rw[List.findIdx_eq hl];refine⟨h1,fun j hj=>?_⟩;have:=S_.1 h0 l[j] (by
  rw[av_];exact⟨j,by omega,rfl⟩)
 simpa using this
theorem wx1 {α:Type} (P:α→Bool) (l:List α):decide (0≤fidx P l)=l.any P:=by
 unfold fidx;split
 ·rename_i h;rw[h];simp
 ·rename_i h;simp at h;simp;exact h
theorem dv3 {α:Type} {P:α→Bool} {l:List α} (h:l.any P=true):∃i:Nat,fidx P l=(i:Int)∧∃hi:i < l.length,P l[i]=true∧l.findIdx P=i:=by
 unfold fidx;rw[if_pos h];have hl:l.findIdx P < l.length:=bM_.2 (by simpa using h);exact⟨_,rfl,hl,bq_ (w:=hl),rfl⟩
theorem iy3 (K:Nat) (hF:∀args w,(callFunc K args).run Tryz.prog w=.ok (.enter K args) w) (p:Addr) (P:Int×Int→Bool) (A:Option Addr) (n c:Nat) (fs:List (Int×Int)) (w:World) (hn:n≤1000000) (hr:Row w.heap.size w A n 2 (ax fs))
  (hK:∀f w1,Below w.heap.size w w1→Calls Tryz.prog K #[.agg #[.int .i64 f.1,.int .i64 f.2],.pointer (some p)] w1 fun e w'=>e=.returned (.bool (P f))∧Below w1.heap.size w1 w'):
  Calls Tryz.prog 292 #[.slice A n c,.func (.func K) #[] #[.pointer (some p)]] w fun e w'=>e=.returned (.int .i64 (fidx P fs))∧Below w.heap.size w w':=by
 have hnn:=hr.flen;have HK:=H_ hK;have HF:=H_ hF;clear hK hF;go_enter Tryz.func292,Tryz.ntmps292;go_wp2
 go_loopw [8] (fun i wr=>∃k:Nat,k≤n∧i=.int .i64 (k:Int)∧Hid ((fs.take k).any P=false)∧Below w.heap.size w wr) (fun i _=>n - (intOf i).toNat)
 case atStart=>exact⟨0,t_ _,rfl,H_ rfl,Below.refl _ _⟩
 case round=>
  obtain⟨k,hk,rfl,hb,hbl⟩:=hrel
  by_cases hlt:k < n
  ·obtain⟨a,hl,rfl,hbk,c0,c1⟩:=(hr.below hbl).file hlt
   have ht:=mz1 (P:=P) hl;have hs:=fun h1=>fw1 (P:=P) hl hb.out h1;generalize fs[k]=f at *;have HT:=H_ ht;have HS:=H_ hs;clear ht hs hl;have hc:=HK.out f wr hbl
   cases hp:P f with
   |true=>
    rw[hp]at hc;have HP:=H_ hp;clear hp;go_wp2_with fail;rw[HF.out,Oper.upon_enter];refine hc.mono ?_;rintro e w1 ⟨rfl,hb1⟩;go_wp2;go_ret;exact⟨uy1 (HS.out HP.out).symm,az hbl hb1⟩
   |false=>
    rw[hp]at hc;have HP:=H_ hp;clear hp;go_wp2_with fail;rw[HF.out,Oper.upon_enter];refine hc.mono ?_;rintro e w1 ⟨rfl,hb1⟩;go_wp2;go_roundw
    case rel=>exact⟨k+1,by omega,by go_num,H_ (by rw[HT.out,hb.out,HP.out];rfl),az hbl hb1⟩
    case measure=>simp[intOf];omega
  ·have hall:fidx P fs=-1:=zq (by
    have hb':=hb.out
    rwa [i_ (by omega)]at hb')
   have HA:=H_ hall;clear hall;go_wp2;go_ret;exact⟨uy1 HA.out.symm,hbl⟩
end
section
open Go Go.RowKit
theorem sw4 (K:Nat) (hF:∀args w,(callFunc K args).run Tryz.prog w=.ok (.enter K args) w) (p:Addr) (P:Int×Int→Bool) (A:Option Addr) (n c:Nat) (fs:List (Int×Int)) (w:World) (hn:n≤1000000) (hr:Row w.heap.size w A n 2 (ax fs))
  (hK:∀f w1,Below w.heap.size w w1→Calls Tryz.prog K #[.agg #[.int .i64 f.1,.int .i64 f.2],.pointer (some p)] w1 fun e w'=>e=.returned (.bool (P f))∧Below w1.heap.size w1 w'):
  Calls Tryz.prog 286 #[.slice A n c,.func (.func K) #[] #[.pointer (some p)]] w fun e w'=>e=.returned (.bool (fs.any P))∧Below w.heap.size w w':=by
 have hge:=wx1 P fs;have hq:=iy3 K hF p P A n c fs w hn hr hK;clear hK;generalize fidx P fs=i at *;have HGE:=H_ hge;clear hge;go_enter Tryz.func286,Tryz.ntmps286;go_wp2_with fail;refine hq.mono ?_;rintro e w1 ⟨rfl,hb⟩;clear hq;go_wp2;go_ret;exact⟨ix1 HGE.out,hb⟩
theorem jy4 (A:Option Addr) (n c:Nat) (fs:List (Int×Int)) (w:World) (hn:n≤1000000) (hr:Row w.heap.size w A n 2 (ax fs)):
  Calls Tryz.prog 286 #[.slice A n c,.func (.func 334) #[] #[]] w fun e w'=>e=.returned (.bool (fs.any fun f=>!wz f))∧Below w.heap.size w w':=by
 have hidx:Calls Tryz.prog 292 #[.slice A n c,.func (.func 334) #[] #[]] w fun e w'=>e=.returned (.int .i64 (fidx (fun f=>!wz f) fs))∧Below w.heap.size w w':=by
  obtain⟨P,hP⟩:∃P:Int×Int→Bool,P=fun f=>!wz f:=⟨_,rfl⟩;have hK:∀f w1,Calls Tryz.prog 334 #[.agg #[.int .i64 f.1,.int .i64 f.2]] w1 fun e w'=>e=.returned (.bool (P f))∧Below w1.heap.size w1 w':=fun f w1=>by rw[hP];exact pz4 f w1
  rw[←hP];have hnn:=hr.flen;have HK:=H_ hK;clear hK hP;go_enter Tryz.func292,Tryz.ntmps292;go_wp2
  go_loopw [8] (fun i wr=>∃k:Nat,k≤n∧i=.int .i64 (k:Int)∧Hid ((fs.take k).any P=false)∧Below w.heap.size w wr) (fun i _=>n - (intOf i).toNat)
  case atStart=>exact⟨0,t_ _,rfl,H_ rfl,Below.refl _ _⟩
  case round=>
   obtain⟨k,hk,rfl,hb,hbl⟩:=hrel
   by_cases hlt:k < n
   ·obtain⟨a,hl,rfl,hbk,c0,c1⟩:=(hr.below hbl).file hlt
    have ht:=mz1 (P:=P) hl;have hs:=fun h1=>fw1 (P:=P) hl hb.out h1;generalize fs[k]=f at *;have HT:=H_ ht;have HS:=H_ hs;clear ht hs hl;have hc:=HK.out f wr
    cases hp:P f with
    |true=>
     rw[hp]at hc;have HP:=H_ hp;clear hp;go_wp2_with fail;refine hc.mono ?_;rintro e w1 ⟨rfl,hb1⟩;go_wp2;go_ret;exact⟨uy1 (HS.out HP.out).symm,az hbl hb1⟩
    |false=>
     rw[hp]at hc;have HP:=H_ hp;clear hp;go_wp2_with fail;refine hc.mono ?_;rintro e w1 ⟨rfl,hb1⟩;go_wp2;go_roundw
     case rel=>exact⟨k+1,by omega,by go_num,H_ (by rw[HT.out,hb.out,HP.out];rfl),az hbl hb1⟩
     case measure=>simp[intOf];omega
   ·have hall:fidx P fs=-1:=zq (by
     have hb':=hb.out
     rwa [i_ (by omega)]at hb')
    have HA:=H_ hall;clear hall;go_wp2;go_ret;exact⟨uy1 HA.out.symm,hbl⟩
 have hge:=wx1 (fun f=>!wz f) fs;generalize fidx (fun f=>!wz f) fs=i at *;have HGE:=H_ hge;clear hge;go_enter Tryz.func286,Tryz.ntmps286;go_wp2_with fail;refine hidx.mono ?_;rintro e w1 ⟨rfl,hb⟩;clear hidx;go_wp2;go_ret;exact⟨ix1 HGE.out,hb⟩
theorem oz4 (A:Option Addr) (n c:Nat) (ns:List Int) (w:World) (hn:n≤1000000) (hr:Row w.heap.size w A n 1 (vk ns)):
  Calls Tryz.prog 332 #[.slice A n c,.func (.func 333) #[] #[]] w fun e w'=>e=.returned (.bool (ns.any fun f=>!isNum f))∧w=w':=by
 have hidx:Calls Tryz.prog 357 #[.slice A n c,.func (.func 333) #[] #[]] w fun e w'=>e=.returned (.int .i64 (fidx (fun f=>!isNum f) ns))∧w=w':=by
  obtain⟨P,hP⟩:∃P:Int→Bool,P=fun f=>!isNum f:=⟨_,rfl⟩;have hK:∀f w1,Calls Tryz.prog 333 #[.int .i64 f] w1 fun e w'=>e=.returned (.bool (P f))∧w1=w':=fun f w1=>by rw[hP];exact mq4 f w1
  rw[←hP];have hnn:=hr.ilen;have HK:=H_ hK;clear hK hP;go_enter Tryz.func357,Tryz.ntmps357;go_wp2
  go_loop [8] (fun i=>∃k:Nat,k≤n∧i=.int .i64 (k:Int)∧Hid ((ns.take k).any P=false)) (fun i=>n - (intOf i).toNat)
  case atStart=>exact⟨0,t_ _,rfl,H_ rfl⟩
  case round=>
   obtain⟨k,hk,rfl,hb⟩:=hrel
   by_cases hlt:k < n
   ·obtain⟨a,hl,rfl,hbk,c0⟩:=hr.int_ hlt
    have ht:=mz1 (P:=P) hl;have hs:=fun h1=>fw1 (P:=P) hl hb.out h1;generalize ns[k]=f at *;have HT:=H_ ht;have HS:=H_ hs;clear ht hs hl;have hc:=HK.out f w
    cases hp:P f with
    |true=>
     rw[hp]at hc;have HP:=H_ hp;clear hp;go_wp2_with fail;refine hc.mono ?_;rintro e w1 ⟨rfl,rfl⟩;go_wp2;go_ret;exact⟨uy1 (HS.out HP.out).symm,rfl⟩
    |false=>
     rw[hp]at hc;have HP:=H_ hp;clear hp;go_wp2_with fail;refine hc.mono ?_;rintro e w1 ⟨rfl,rfl⟩;go_wp2
     go_round
     case rel=>exact⟨k+1,by omega,by go_num,H_ (by rw[HT.out,hb.out,HP.out];rfl)⟩
     case measure=>simp[intOf];omega
   ·have hall:fidx P ns=-1:=zq (by
     have hb':=hb.out
     rwa [i_ (by omega)]at hb')
    have HA:=H_ hall;clear hall;go_wp2;go_ret;exact⟨uy1 HA.out.symm,rfl⟩
 have hge:=wx1 (fun f=>!isNum f) ns;generalize fidx (fun f=>!isNum f) ns=i at *;have HGE:=H_ hge;clear hge;go_enter Tryz.func332,Tryz.ntmps332;go_wp2_with fail;refine hidx.mono ?_;rintro e w1 ⟨rfl,rfl⟩;clear hidx;go_wp2;go_ret;exact⟨ix1 HGE.out,rfl⟩
theorem qk2 (a b c d:Nat):tx2 a b c d= !bigs [a,b,c,d]:=by
 rw[cc_];simp[tx2,bigs];omega
theorem zk1:∀fs:List (Int×Int),apart fs=true↔fs.Pairwise fun f g=>g.2≠f.2
 |[]=>by simp[apart]
 |f::r=>by
  rw[apart,Z_,K_,zk1 r];simp
theorem pw3 (fs:List (Int×Int)):(fs.all wz&&apart fs)=true↔∀k (h:k < fs.length),wz fs[k]=true∧(fs.take k).any (fun g=>g.2==(fs[k]).2)=false:=by
 rw[K_,zk1,al_,ai_];constructor
 ·rintro⟨h1,h2⟩ k hk
  refine⟨h1 _ (v_ hk),?_⟩;rw[S_];intro g hg;obtain⟨i,hi,rfl⟩:=av_.1 hg;have:=h2 i k (by omega) hk (by omega);simp only[beq_iff_eq];exact fun e=>this e.symm
 ·intro h
  refine⟨fun f hf=>?_,fun i j hi hj hij=>?_⟩
  ·obtain⟨k,hk,rfl⟩:=aR_ hf
   exact(h k hk).1
  ·have:=S_.1 (h j hj).2 fs[i] (av_.2 ⟨i,by omega,rfl⟩)
   simp only[beq_iff_eq]at this;exact fun e=>this e.symm
def Vw.val (v:Vw) (A:Option Addr) (n c:Nat):Value:=.agg #[.int .i64 v.log,.slice A n c,.int .u64 (v.floor:Int),.int .u64 (v.cert:Int),.int .u64 (v.at_:Int),.int .u64 (v.lease:Int)]
def Ed.val (e:Ed) (D:Option Addr) (m d:Nat) (A:Option Addr) (n c:Nat):Value:=.agg #[.slice D m d,.slice A n c,.int .i64 e.log,.int .u64 (e.floor:Int),.int .u64 (e.cert:Int),.int .u64 (e.at_:Int),.int .u64 (e.lease:Int)]
theorem vz4 (v:Vw) (A:Option Addr) (n c:Nat) (w:World) (hn:n≤1000000) (hnc:n≤c) (_hcm:c≤maxLen) (hr:Row w.heap.size w A n 2 (ax v.files)):
  Calls Tryz.prog 227 #[v.val A n c] w fun e w'=>e=.returned (.bool v.ok)∧Below w.heap.size w w':=by
 obtain⟨g,fs,f,ce,a,l⟩:=v;obtain⟨b,hb⟩:=n_ (Vw.ok ⟨g,fs,f,ce,a,l⟩);have hfl:=hr.flen;rw[←hb];unfold Vw.ok at hb;simp only at hb hr hfl;rw[qk2,hfl,Bool.and_assoc _ _ (apart fs)]at hb;unfold Vw.val;simp only;have hisn:=qw1 g
 cases h1:isNum g with
 |false=>
  rw[h1]at hb hisn;have HB:=H_ hb;clear hb h1;go_enter Tryz.func227,Tryz.ntmps227;go_wp2_with fail;refine(hisn _).mono ?_;rintro e w1 ⟨rfl,rfl⟩;go_wp2;go_ret;exact⟨ix1 HB.out.symm,b_ _ _⟩
 |true=>
  rw[h1]at hb hisn
  by_cases h2:n≤40
  ·cases h3:bigs [f,ce,a,l] with
   |true=>
    rw[h3]at hb;have HB:=H_ hb;clear hb h1;have HX:=H_ h3;clear h3;go_enter Tryz.func227,Tryz.ntmps227;go_wp2_with fail;refine(hisn _).mono ?_;rintro e w1 ⟨rfl,rfl⟩;clear hisn;have hrow:=pq2 (w.alloc (.cells #[.int .i64 g,.slice A n c,.int .u64 (f:Int),.int .u64 (ce:Int),.int .u64 (a:Int),.int .u64 (l:Int)] 86)) 22 #[.int .u64 (f:Int),.int .u64 (ce:Int),.int .u64 (a:Int),.int .u64 (l:Int)] [f,ce,a,l] 4 rfl rfl;have hmeta:=kx2 _ 4 4 [f,ce,a,l] _ (by omega) hrow;rw[HX.out]at hmeta;simp only[A_,bU_]at hmeta;clear hrow;go_wp2_with fail;refine hmeta.mono ?_;rintro e w1 ⟨rfl,rfl⟩;clear hmeta;go_wp2;go_ret;exact⟨ix1 (HB.out.trans (by simp)).symm,(b_ _ _).alloc (by simp) _⟩
   |false=>
    rw[h3]at hb;have hgd:=pw3 fs;have hbb:b=(fs.all wz&&apart fs):=by rw[hb];simp[h2]
    rw[←hbb]at hgd;have HG:=H_ hgd;clear hb h1 hgd hbb;have HX:=H_ h3;clear h3;go_enter Tryz.func227,Tryz.ntmps227;go_wp2_with fail;refine(hisn _).mono ?_;rintro e w1 ⟨rfl,rfl⟩;clear hisn;have hrow:=pq2 (w.alloc (.cells #[.int .i64 g,.slice A n c,.int .u64 (f:Int),.int .u64 (ce:Int),.int .u64 (a:Int),.int .u64 (l:Int)] 86)) 22 #[.int .u64 (f:Int),.int .u64 (ce:Int),.int .u64 (a:Int),.int .u64 (l:Int)] [f,ce,a,l] 4 rfl rfl;have hmeta:=kx2 _ 4 4 [f,ce,a,l] _ (by omega) hrow;rw[HX.out]at hmeta;simp only[A_,ce_]at hmeta;clear hrow;go_wp2_with fail;refine hmeta.mono ?_;rintro e w1 ⟨rfl,rfl⟩;clear hmeta;have hbx0:=(BoxO.new w #[.int .i64 g,.slice A n c,.int .u64 (f:Int),.int .u64 (ce:Int),.int .u64 (a:Int),.int .u64 (l:Int)] 86).alloc (.cells #[.int .u64 (f:Int),.int .u64 (ce:Int),.int .u64 (a:Int),.int .u64 (l:Int)] 22);have hbl0:=(b_ w (.cells #[.int .i64 g,.slice A n c,.int .u64 (f:Int),.int .u64 (ce:Int),.int .u64 (a:Int),.int .u64 (l:Int)] 86)).alloc (by simp) (.cells #[.int .u64 (f:Int),.int .u64 (ce:Int),.int .u64 (a:Int),.int .u64 (l:Int)] 22);go_wp2
    go_loopw [31] (fun i wr=>∃k:Nat,k≤n∧i=.int .i64 (k:Int)∧Hid (∀j (h:j < fs.length),j < k→wz fs[j]=true∧(fs.take j).any (fun g=>g.2==(fs[j]).2)=false)∧
     BoxO wr 86 w.heap.size [.int .i64 g,.slice A n c,.int .u64 (f:Int),.int .u64 (ce:Int),.int .u64 (a:Int),.int .u64 (l:Int)]∧Below w.heap.size w wr) (fun i _=>n - (intOf i).toNat)
    case atStart=>exact⟨0,t_ _,rfl,H_ (fun j h hj=>by omega),hbx0,hbl0⟩
    case round=>
     obtain⟨k,hk,rfl,hgd,hBx,hbl⟩:=hrel;clear hbx0 hbl0
     by_cases hlt:k < n
     ·have hrk:=(hr.pre (m:=k) hk).below hbl
      rw[←ij1]at hrk;obtain⟨ad,hl,rfl,hbk,c0,c1⟩:=(hr.below hbl).file hlt;have hbad1:wz fs[k]=false→b=false:=fun h=>by
       cases b with
       |false=>rfl
       |true=>have:=(HG.out.1 rfl k hl).1;rw[h]at this;cases this
      have hbad2:(fs.take k).any (fun g=>g.2==(fs[k]).2)=true→b=false:=fun h=>by
       cases b with
       |false=>rfl
       |true=>have:=(HG.out.1 rfl k hl).2;rw[h]at this;cases this
      have hnext:wz fs[k]=true→(fs.take k).any (fun g=>g.2==(fs[k]).2)=false→∀j (h:j < fs.length),j < k+1→wz fs[j]=true∧(fs.take j).any (fun g=>g.2==(fs[j]).2)=false:=fun e1 e2 j hj hjk=>by
       rcases T_ j k with h|h
       ·exact hgd.out j hj h
       ·obtain rfl:j=k:=by omega
        exact⟨e1,e2⟩
      generalize fs[k]=x at *;obtain⟨ps,hps⟩:=n_ (fs.take k);rw[←hps]at hbad2 hnext hrk;have H1:=H_ hbad1;have H2:=H_ hbad2;have H3:=H_ hnext;clear hbad1 hbad2 hnext hgd hps HG HX hl;have q1:=hBx.c1;have hisf:=dy2 x
      cases hx:wz x with
      |false=>
       rw[hx]at hisf;have HF:=H_ hx;clear hx;go_wp2_with fail;refine(hisf _).mono ?_;rintro e w1 ⟨rfl,hb1⟩;have hbw:=az (hbl.alloc hbl.size (.cells #[.int .i64 x.1,.int .i64 x.2] 170)) hb1;clear hisf;go_wp2;go_ret;exact⟨ix1 (H1.out HF.out).symm,hbw⟩
      |true=>
       rw[hx]at hisf;have HF:=H_ hx;clear hx;go_wp2_with fail;refine(hisf _).mono ?_;rintro e w1 ⟨rfl,hb1⟩;have hbA:=Below.alloc (Below.refl wr.heap.size wr) l_ (.cells #[.int .i64 x.1,.int .i64 x.2] 170);have hbw:=az hbA hb1;have hB1:=hBx.below hbw;have hXc:w1.cell? ⟨wr.heap.size,1,none⟩=some (.int .i64 x.2):=by
        rw[hb1.cell (p:=⟨wr.heap.size,1,none⟩) (by simp)];exact(BoxO.new wr #[.int .i64 x.1,.int .i64 x.2] 170).cell 1
       have hbz:=az hbl hbw;have hrk1:=(hrk.below (hbw.mono hbl.size)).up hbz.size;have hXlt:=V_ w1 _ hXc;clear hisf hb1 hbA hbw hBx q1 c0 c1;have q1:=hB1.c1;have hfh:=sw4 287 (fun _ _=>rfl) ⟨wr.heap.size,0,none⟩ (fun f=>f.2==x.2) (some ad) k c ps w1 (by omega) hrk1 (fun f w2 hb2=>aq5 f wr.heap.size x.2 w2 ((hb2.cell (p:=⟨wr.heap.size,1,none⟩) hXlt).trans hXc))
       cases hany:ps.any (fun f=>f.2==x.2) with
       |true=>
        rw[hany]at hfh;have HY:=H_ hany;clear hany;go_wp2_with fail;refine hfh.mono ?_;rintro e w2 ⟨rfl,hb2⟩;have hbq:=az hbz hb2;clear hfh;go_wp2;go_ret;exact⟨ix1 (H2.out HY.out).symm,hbq⟩
       |false=>
        rw[hany]at hfh;have HY:=H_ hany;clear hany;go_wp2_with fail;refine hfh.mono ?_;rintro e w2 ⟨rfl,hb2⟩;have hbq:=az hbz hb2;have hB2:=hB1.below hb2;clear hfh;go_wp2;go_roundw
        case rel=>exact⟨k+1,by omega,by go_num,H_ (H3.out HF.out HY.out),hB2,hbq⟩
        case measure=>simp[intOf];omega
     ·have hfin:b=true:=HG.out.2 (fun j hj=>hgd.out j hj (by omega))
      have HF:=H_ hfin;clear hfin hgd HG HX;go_wp2;go_ret;exact⟨ix1 HF.out.symm,hbl⟩
  ·have hbf:b=false:=by rw[hb];simp[h2]
   have HB:=H_ hbf;clear hb h1 hbf;go_enter Tryz.func227,Tryz.ntmps227;go_wp2_with fail;refine(hisn _).mono ?_;rintro e w1 ⟨rfl,rfl⟩;go_wp2;go_ret;exact⟨ix1 HB.out.symm,b_ _ _⟩
end
end Go.Proofs.YthjdpplgfdihoaaGreatDoor
