/- Some of the texts. No conditions. -/
import Derived.Test.YtfbkjjdfboagfaaGreatDoorBunAA
import Derived.BigQuiet
import Derived.Lib.MinMax
import Derived.Deep.RegionLaw

set_option linter.unusedSimpArgs false
set_option linter.unusedVariables false
set_option maxRecDepth 100000
set_option maxHeartbeats 16000000
namespace Go.Proofs.YtfbkjjdfboagfaaGreatDoor
open Go.Proofs.Tryz Go Go.RowKit Go.Lib Go.Shelf
theorem gx1 (a b:It) (w:World):Calls prog 95 #[a.val,b.val] w fun e w'=>e=.returned (.bool (a.less b))/\Below w w w':=by
 obtain⟨E,H,t1,O,Q⟩:=a;obtain⟨I,J,t2,U,x2⟩:=b;have z:=(b_ w (.cells #[E,H,[t1],[O],Q] 33)).alloc s_ (.cells #[I,J,[t2],[U],x2] 33);obtain⟨r,o⟩:=n_ (It.less ⟨E,H,t1,O,Q⟩ ⟨I,J,t2,U,x2⟩);rw[<-o];unfold It.less at o;unfold It.val;simp only at o ⊢
 by_cases h1:E=I
 ·subst h1
  by_cases h2:H=J
  ·subst h2
   by_cases h3:(t1:Int) < (t2:Int)
   ·have h4:t1 < t2:=o_
    have C:=H_ (o.trans (show _=true by simp[h4]));clear o;go_enter func95,ntmps95;go_wp2;go_ret;exact⟨ik C.symm,z⟩
   ·have h4:¬t1 < t2:=o_
    have C:=H_ (o.trans (show _=false by simp[h4]));clear o;go_enter func95,ntmps95;go_wp2;go_ret;exact⟨ik C.symm,z⟩
  ·have e2:(H==J)=false:=by simpa using h2
   by_cases h3:H < J
   ·have C:=H_ (o.trans (show _=true by simp[h2,h3]))
    clear o;go_enter func95,ntmps95;go_wp2;go_ret;exact⟨ik C.symm,z⟩
   ·have C:=H_ (o.trans (show _=false by simp[h2,h3]))
    clear o;go_enter func95,ntmps95;go_wp2;go_ret;exact⟨ik C.symm,z⟩
 ·have e1:(E==I)=false:=by simpa using h1
  by_cases h3:E < I
  ·have C:=H_ (o.trans (show _=true by simp[h1,h3]))
   clear o;go_enter func95,ntmps95;go_wp2;go_ret;exact⟨ik C.symm,z⟩
  ·have C:=H_ (o.trans (show _=false by simp[h1,h3]))
   clear o;go_enter func95,ntmps95;go_wp2;go_ret;exact⟨ik C.symm,z⟩
theorem ik2 (a b:It) (w:World):Calls prog 98 #[a.val,b.val] w fun e w'=>e=.returned (.bool (a.wins b))/\Below w w w':=by
 obtain⟨O,Q,t1,C,I⟩:=a;obtain⟨U,k2,t2,E,J⟩:=b;have z:=(b_ w (.cells #[O,Q,[t1],[C],I] 33)).alloc s_ (.cells #[U,k2,[t2],[E],J] 33);obtain⟨r,o⟩:=n_ (It.wins ⟨O,Q,t1,C,I⟩ ⟨U,k2,t2,E,J⟩);rw[<-o];unfold It.wins at o;unfold It.val;simp only at o ⊢
 by_cases h1:(E:Int) < (C:Int)
 ·have h4:E < C:=o_
  have H:=H_ (o.trans (show _=true by simp[h4]));clear o;go_enter func98,ntmps98;go_wp2;go_ret;exact⟨ik H.symm,z⟩
 ·have h4:¬E < C:=o_
  by_cases h2:C=E
  ·subst h2
   by_cases h3:J < I
   ·have H:=H_ (o.trans (show _=true by simp[h3]))
    clear o;go_enter func98,ntmps98;go_wp2;go_ret;exact⟨ik H.symm,z⟩
   ·have H:=H_ (o.trans (show _=false by simp[h3]))
    clear o;go_enter func98,ntmps98;go_wp2;go_ret;exact⟨ik H.symm,z⟩
  ·have e2:((C:Int)==(E:Int))=false:=by rw[beq_eq_false_iff_ne];omega
   have H:=H_ (o.trans (show _=false by simp[h4,h2]));clear o;go_enter func98,ntmps98;go_wp2;go_ret;exact⟨ik H.symm,z⟩
theorem qy2 (a b:It) (w:World):Calls prog 170 #[a.val,b.val] w fun e w'=>e=.returned (.bool (a.hides b))/\Below w w w':=by
 obtain⟨I,J,t1,E,U⟩:=a;obtain⟨O,Q,t2,H,x2⟩:=b;have z:=(b_ w (.cells #[I,J,[t1],[E],U] 33)).alloc s_ (.cells #[O,Q,[t2],[H],x2] 33);obtain⟨r,o⟩:=n_ (It.hides ⟨I,J,t1,E,U⟩ ⟨O,Q,t2,H,x2⟩);rw[<-o];unfold It.hides at o;unfold It.val;simp only at o ⊢
 by_cases h1:J=1
 ·subst h1
  by_cases h2:Q=2
  ·subst h2
   by_cases h3:I=O
   ·subst h3
    by_cases h4:(H:Int)<=(E:Int)
    ·have h5:H<=E:=o_
     have C:=H_ (o.trans (show _=true by simp[h5]));clear o;go_enter func170,ntmps170;go_wp2;go_ret;exact⟨ik C.symm,z⟩
    ·have h5:¬H<=E:=o_
     have C:=H_ (o.trans (show _=false by simp[h5]));clear o;go_enter func170,ntmps170;go_wp2;go_ret;exact⟨ik C.symm,z⟩
   ·have e3:(I==O)=false:=by simpa using h3
    have C:=H_ (o.trans (show _=false by simp[h3]));clear o;go_enter func170,ntmps170;go_wp2;go_ret;exact⟨ik C.symm,z⟩
  ·have e2:(Q==2)=false:=by simpa using h2
   have C:=H_ (o.trans (show _=false by simp[h2]));clear o;go_enter func170,ntmps170;go_wp2;go_ret;exact⟨ik C.symm,z⟩
 ·have e1:(J==1)=false:=by simpa using h1
  have C:=H_ (o.trans (show _=false by simp[h1]));clear o;go_enter func170,ntmps170;go_wp2;go_ret;exact⟨ik C.symm,z⟩
theorem fw2 (a b:It) (w:World):Calls prog 97 #[a.val,b.val] w fun e w'=>e=.returned (.bool (a.same b))/\Below w w w':=by
 obtain⟨C,E,t1,H,I⟩:=a;obtain⟨J,O,t2,Q,U⟩:=b;have a8:=(b_ w (.cells #[C,E,[t1],[H],I] 33)).alloc s_ (.cells #[J,O,[t2],[Q],U] 33);have hl:=fun W=>gx1 ⟨C,E,t1,H,I⟩ ⟨J,O,t2,Q,U⟩ W;have z:=fun W=>gx1 ⟨J,O,t2,Q,U⟩ ⟨C,E,t1,H,I⟩ W;unfold It.val It.same;unfold It.val at hl z;simp only at hl z ⊢;generalize It.less ⟨C,E,t1,H,I⟩ ⟨J,O,t2,Q,U⟩=p at *;generalize It.less ⟨J,O,t2,Q,U⟩ ⟨C,E,t1,H,I⟩=q at *;have HL:=H_ hl;have a9:=H_ z;have hA:=(BoxO.new w #[C,E,[t1],[H],I] 33).alloc (.cells #[J,O,[t2],[Q],U] 33);have hB:=BoxO.new (w.alloc (.cells #[C,E,[t1],[H],I] 33)) #[J,O,[t2],[Q],U] 33;rw[F_]at hB;clear hl z
 cases p with
 |true=>
  clear hA hB a9;go_enter func97,ntmps97;go_wp2_with fail;refine(HL.out _).mono ?_;rintro e w1 ⟨rfl,o⟩;have a5:=az a8 o;go_wp2;go_ret;exact⟨rfl,a5⟩
 |false=>
  go_enter func97,ntmps97;go_wp2_with fail;refine(HL.out _).mono ?_;rintro e w1 ⟨rfl,o⟩;have a5:=az a8 o;have kA:=hA.below o;have kB:=hB.below o;have a0:=kA.c0;have a1:=kA.c1;have a2:=kA.c2;have a3:=kA.c3;have a4:=kA.c4;have b0:=kB.c0;have b1:=kB.c1;have b2:=kB.c2;have b3:=kB.c3;have b4:=kB.c4;clear hA hB kA kB HL;go_wp2_with fail;refine(a9.out _).mono ?_;rintro e w2 ⟨rfl,b8⟩;have b9:=az a5 b8
  cases q
  all_goals
   go_wp2;go_ret;exact⟨rfl,b9⟩
theorem tz1 (a:It) (w:World):Calls prog 101 #[a.val] w fun e w'=>e=.returned (.bool a.ok)/\Below w w w':=by
 obtain⟨E,I,t1,H,J⟩:=a;have z:=b_ w (.cells #[E,I,[t1],[H],J] 33);obtain⟨r,o⟩:=n_ (It.ok ⟨E,I,t1,H,J⟩);rw[<-o];unfold It.ok at o;unfold It.val;simp only at o ⊢
 by_cases h1:E < 0
 ·have g1:¬0<=E:=o_
  have C:=H_ (o.trans (show _=false by simp[g1]));clear o;go_enter func101,ntmps101;go_wp2;go_ret;exact⟨ik C.symm,z⟩
 have g1:0<=E:=o_
 by_cases h2:255 < E
 ·have g2:¬E<=255:=o_
  have C:=H_ (o.trans (show _=false by simp[g2]));clear o;go_enter func101,ntmps101;go_wp2;go_ret;exact⟨ik C.symm,z⟩
 have g2:E<=255:=o_
 by_cases h3:(H:Int) < 1
 ·have g3:¬1<=H:=o_
  have C:=H_ (o.trans (show _=false by simp[g3]));clear o;go_enter func101,ntmps101;go_wp2;go_ret;exact⟨ik C.symm,z⟩
 have g3:1<=H:=o_
 by_cases h4:281474976710656 < (H:Int)
 ·have O:¬H<=281474976710656:=o_
  have C:=H_ (o.trans (show _=false by simp[O]));clear o;go_enter func101,ntmps101;go_wp2;go_ret;exact⟨ik C.symm,z⟩
 have O:H<=281474976710656:=o_
 by_cases h5:I=1
 ·subst h5
  by_cases h6:t1=0
  ·subst h6
   by_cases Q:J=0
   ·subst Q
    have C:=H_ (o.trans (show _=true by simp[g1,g2,g3,O]));clear o;go_enter func101,ntmps101;go_wp2;go_ret;exact⟨ik C.symm,z⟩
   ·have e7:(J==0)=false:=by simpa using Q
    have C:=H_ (o.trans (show _=false by simp[Q]));clear o;go_enter func101,ntmps101;go_wp2;go_ret;exact⟨ik C.symm,z⟩
  ·have e6:((t1:Int)==0)=false:=by rw[beq_eq_false_iff_ne];omega
   have C:=H_ (o.trans (show _=false by simp[h6]));clear o;go_enter func101,ntmps101;go_wp2;go_ret;exact⟨ik C.symm,z⟩
 have e5:(I==1)=false:=by simpa using h5
 by_cases U:I=2
 ·subst U
  by_cases h9:(t1:Int)<=1099511627776
  ·have g9:t1<=1099511627776:=o_
   have C:=H_ (o.trans (show _=true by simp[g1,g2,g3,O,g9]));clear o;go_enter func101,ntmps101;go_wp2;go_ret;exact⟨ik C.symm,z⟩
  ·have g9:¬t1<=1099511627776:=o_
   have C:=H_ (o.trans (show _=false by simp[g9]));clear o;go_enter func101,ntmps101;go_wp2;go_ret;exact⟨ik C.symm,z⟩
 have e8:(I==2)=false:=by simpa using U
 have C:=H_ (o.trans (show _=false by simp[h5,U]));clear o;go_enter func101,ntmps101;go_wp2;go_ret;exact⟨ik C.symm,z⟩
theorem jw2 {P:Program} {ops:Array Oper} {o:Oper} {a:Act} {w:World} {K:Act->World->Prop} {Q:Exit->Act->World->Prop} {E:Prop} (a2:o.guard=none) (s x:Operand) (t:TypeId)
  (ho:o.op=.call { callee:=.builtin .append,args:=#[s,x],argTypes:=#[t,t] })
  (base:Nat) (e:TypeId) (i:TypeInfo) (z:Value) (size bytes:Nat) (ht:P.underlying t=some (.slice e)) (hi:P.info? e=some i) (hz:i.zero=some z)
  (H:i.size=size) (a4:i.bytes=bytes) (a5:z.cells.size=size) (J:0 < size) (I:base<=(w:Nat)) (v:Value) (n:Nat) (xs:List Value) (hs:a.eval s=v) (O:w.ownsRow base e size v n xs)
  (B:Nat) (A:Option Addr) (m c:Nat) (hm:0 < m) (news:List Value) (hx:a.eval x=.slice A m c) (hr:Row B w A m size news) (h1:∀u∈news,u.oneCell'=true)
  (N:Nat) (X:List Value) (hN:n+m=N) (hX:xs++news=X) (a6:N<=maxLen) (C:N *bytes<=140737488355328)
  (h:∀A' c' w',w'.ownsRow base e size (.slice A' N c') N X->w.grownBy w' v.ownBlock->N<=c'->c'<=maxLen->((Value.slice A' N c').ownBlock=v.ownBlock\/(Value.slice A' N c').ownBlock=some (w:Nat))->K (a.put o.dst (.slice A' N c')) w'):
  if Region.wanted o (yielded ops a.tmps)=true then Oper.wp P o a w K Q else E:=by
 have hw:Region.wanted o (yielded ops a.tmps)=true:=by simp[Region.wanted,a2]
 rw[if_pos hw];subst hN;subst hX;have U:0 < news.length:=by
  rw[hr.len];exact cK_ hm J
 obtain⟨a',rfl,_⟩:=hr.some_ U;obtain⟨v',w',a0,h3,h4,_,h6⟩:=run_append_own_at (P:=P) (ty:=o.type) w base t e i z size bytes ht hi hz H a4 a5 J v n xs O a' m c news hr.len hr.cells h1 a6 C I;obtain⟨A',c',rfl,h5,h7,_⟩:=ay h3;unfold Oper.wp execOp;simp only[ho,resolve,invoke,builtin,Sem.run_bind,Sem.run_pure,Result.andThen_ok,bN_,al_,bc_,hs,hx,a0];exact h A' c' w' h3 h4 h5 h7 h6
def e8 (n:Nat):List UInt8:=[56,48,40,32,24,16,8,0].map fun k=>UInt8.ofNat (n / 2 ^ k)
theorem zq5 (n:Nat) {k:Nat} (o:k < 8):(e8 n).take (k+1)=(e8 n).take k++[UInt8.ofNat (n / 2 ^ (56 - 8 *k))]:=by
 have e:k=0\/k=1\/k=2\/k=3\/k=4\/k=5\/k=6\/k=7:=o_
 rcases e with rfl|rfl|rfl|rfl|rfl|rfl|rfl|rfl<;>rfl
theorem sv4 (A:Option Addr) (N c:Nat) (l:List UInt8) (n:Nat) (hn:n < 18446744073709551616) (w:World) (hN:N<=1073741824) (hr:Row w w A N 1 (bts l)):
  Calls prog 222 #[.slice A N c,[n]] w fun e w'=>∃A' c',e=.returned (.slice A' (N+8) c')/\
   w'.ownsRow w 5 1 (.slice A' (N+8) c') (N+8) (bts (l++e8 n))/\N+8<=c'/\c'<=maxLen/\Below w w w':=by
 obtain⟨i0,I,J,O,Q⟩:=info_parts gv1;go_enter func222,ntmps222;go_wp2_with (at_builtin;refine iq ?_);refine gz (yx rfl (.const (.slice none 0 0)) (.tmp 7) _ rfl (w:Nat) 5 i0 _ 1 1 underlying77 I J O Q rfl o_ w b0_ l_ rfl (w:Nat) A N c (bts l) rfl hr (by1 l) (by unfold maxLen;omega) o_ ?_);intro A2 c2 w2 H a1 b3 a2 a4;go_wp2
 go_loopw [5,6] (fun o m wr=>∃(k:Nat) (A':Option Addr) (c':Nat),k<=8/\o=.slice A' (N+k) c'/\m=.int .i64 (56 - 8 *(k:Int))/\wr.ownsRow w 5 1 (.slice A' (N+k) c') (N+k) (bts (l++(e8 n).take k))/\N+k<=c'/\c'<=maxLen/\Below w w wr) (fun _ m _=>(intOf m+8).toNat)
 case atStart=>exact⟨0,A2,c2,o_,rfl,rfl,by simpa using H,a2,a4,a1⟩
 case round=>
  obtain⟨k,A',c',hk,rfl,rfl,C,a5,a6,U⟩:=hrel;have HO:=H_ C;clear C
  by_cases a7:k < 8
  ·have h0:8 *(k:Int)<=56:=o_
   go_wp2_with (at_builtin;refine iq ?_);have E:Row ((wr:Nat)+1) (wr.alloc (.cells #[.int .u8 ((UInt8.ofNat (n / 2 ^ (56 - 8 *k))).toNat:Int)] 5)) (some ⟨wr,0,none⟩) 1 1 (bts [UInt8.ofNat (n / 2 ^ (56 - 8 *k))]):=rj3 _ _ _;refine gz (iy rfl (.tmp 13) (.tmp 18) _ rfl (w:Nat) 5 i0 _ 1 1 underlying77 I J O Q rfl o_ w (U.alloc U.size _) (g_ U.size s_) _ (N+k) (bts (l++(e8 n).take k)) rfl (HO.alloc _) ((wr:Nat)+1) _ 1 1 (bts [UInt8.ofNat (n / 2 ^ (56 - 8 *k))]) rfl E (by1 _) (N+(k+1)) (bts (l++(e8 n).take (k+1))) o_ (by rw[zq5 n a7];simp[bts]) (by unfold maxLen;omega) o_ ?_);intro A3 c3 w3 z a8 _ a9 a';have b0:=H_ z;clear z HO E;go_wp2;go_roundw
   case rel=>exact⟨k+1,A3,c3,o_,rfl,by go_num,b0,a9,a',a8⟩
   case measure=>simp[intOf];omega
  ·obtain rfl:k=8:=o_
   have HF:=H_ (show wr.ownsRow w 5 1 (.slice A' (N+8) c') (N+8) (bts (l++e8 n)) from HO);clear HO;go_wp2;go_ret;exact⟨A',c',rfl,HF,a5,a6,U⟩
theorem xv3 {x:Int} (o:0<=x) (h1:x<=255):IntKind.u8.wrap x=((UInt8.ofNat x.toNat).toNat:Int):=by
 rw[<-ex2];simp only[IntKind.wrap_u8];omega
theorem nz4 (x:It) (H:x.ok=true) (w:World):
  Calls prog 165 #[x.val] w fun e w'=>∃A' c',e=.returned (.slice A' 10 c')/\Row w' w' A' 10 1 (bts x.key)/\10<=c'/\c'<=maxLen/\Below w w w':=by
 rw[It.zv3]at H;have e1:=xv3 (x:=x.s) o_ o_;have e2:=xv3 (x:=x.k) o_ o_;have ht:x.t < 18446744073709551616:=o_
 have I:=fun(W:World) (A:Option Addr) (c:Nat) hr=>sv4 A 2 c [UInt8.ofNat x.s.toNat,UInt8.ofNat x.k.toNat] x.t ht W o_ hr;have HK:=H_ (show [UInt8.ofNat x.s.toNat,UInt8.ofNat x.k.toNat] ++e8 x.t=x.key from rfl);unfold It.val;generalize UInt8.ofNat x.s.toNat=z at *;generalize UInt8.ofNat x.k.toNat=C at *;have J:=b_ w (.cells #[x.s,x.k,[x.t],[x.v],x.x] 33);have O:=H_ I;have Q:=H_ J;clear I H J;go_enter func165,ntmps165;go_wp2_with fail;have o:Row ((w.alloc (.cells #[x.s,x.k,[x.t],[x.v],x.x] 33)).alloc (.cells #[.int .u8 z.toNat,.int .u8 C.toNat] 5)).heap.size ((w.alloc (.cells #[x.s,x.k,[x.t],[x.v],x.x] 33)).alloc (.cells #[.int .u8 z.toNat,.int .u8 C.toNat] 5)) (some ⟨(w:Nat)+1,0,none⟩) 2 1 (bts [z,C]):=by
  have:=Row.new (w.alloc (.cells #[x.s,x.k,[x.t],[x.v],x.x] 33)) #[.int .u8 z.toNat,.int .u8 C.toNat] 5 (n:=2) (size:=1) rfl;simpa [bts] using this
 have hb:=Q.alloc Q.size (.cells #[.int .u8 z.toNat,.int .u8 C.toNat] 5);refine(O.out _ _ _ o).mono ?_;rintro e U ⟨A',c',rfl,E,h1,h2,h3⟩;rw[HK.out]at E;have HO:=H_ (show Row U U A' 10 1 (bts x.key) from Row.own E);clear E o O;go_wp2;go_ret;exact⟨A',c',rfl,HO,h1,h2,az hb h3⟩
theorem gv5 (x:Int) (h1:-9223372036854775808<=x) (h2:x < 9223372036854775808):
  bits .xor .u64 (IntKind.u64.wrap (IntKind.u64.wrap x *2)) (IntKind.u64.wrap (x / 9223372036854775808))=(sgn x:Int):=by
 have key:∀a b:Nat,a < 2 ^ 64->b < 2 ^ 64->bits .xor .u64 (a:Int) (b:Int)=((BitVec.ofNat 64 a ^^^ BitVec.ofNat 64 b).toNat:Int):=fun a b E H=>by
  have:=nv2 (BitVec.ofNat 64 a) (BitVec.ofNat 64 b);rw[BitVec.toNat_ofNat,BitVec.toNat_ofNat,aj_ E,aj_ H]at this;exact this
 unfold sgn;simp only[IntKind.wrap_u64]
 by_cases C:0<=x
 ·rw[if_pos C]
  have o:x / 9223372036854775808 % 18446744073709551616=((0:Nat):Int):=o_
  have z:x % 18446744073709551616 *2 % 18446744073709551616=((2 *x).toNat:Int):=o_
  rw[o,z,key _ _ o_ o_];simp;omega
 ·rw[if_neg C]
  have o:x / 9223372036854775808 % 18446744073709551616=((18446744073709551615:Nat):Int):=o_
  have z:x % 18446744073709551616 *2 % 18446744073709551616=((2 *x+18446744073709551616).toNat:Int):=o_
  rw[o,z,key _ _ o_ o_];have I:BitVec.ofNat 64 18446744073709551615=BitVec.allOnes 64:=by decide
  rw[I,BitVec.xor_allOnes,BitVec.toNat_not,BitVec.toNat_ofNat];omega
theorem kv5 (x:Int) (h1:-9223372036854775808<=x) (h2:x < 9223372036854775808) (w:World):
  Calls prog 257 #[x] w fun e w'=>e=.returned (.int .u64 (sgn x:Int))/\w'=w:=by
 go_enter func257,ntmps257;have o:=H_ (gv5 x h1 h2);go_wp2;rw[o.out];go_ret;exact⟨rfl,rfl⟩
theorem zj2 {P:Program} (w:World) (base:Nat) (t ty e:TypeId) (i:TypeInfo) (z:Value) (size bytes:Nat) (Q:P.underlying t=some (.slice e)) (hi:P.info? e=some i) (hz:i.zero=some z)
  (E:i.size=size) (U:i.bytes=bytes) (a0:z.cells.size=size) (I:0 < size) (v:Value) (n:Nat) (xs:List Value) (o:w.ownsRow base e size v n xs)
  (B:Nat) (A:Option Addr) (m c:Nat) (news:List Value) (J:Row B w A m size news) (h1:∀u∈news,u.oneCell'=true)
  (a1:n+m<=maxLen) (C:(n+m)*bytes<=140737488355328) (H:base<=(w:Nat)):
  ∃A' c' w',(Builtin.append_ #[t,t] ty #[v,.slice A m c]).run P w=.ok (.slice A' (n+m) c') w'/\w'.ownsRow base e size (.slice A' (n+m) c') (n+m) (xs++news)/\w.grownBy w' v.ownBlock/\n+m<=c'/\c'<=maxLen/\((Value.slice A' (n+m) c').ownBlock=v.ownBlock\/(Value.slice A' (n+m) c').ownBlock=some (w:Nat)):=by
 rcases an_ m with h0|h0
 ·subst h0
  have hn:news=[]:=aN_ (by simpa using J.len);subst hn;obtain⟨A',c',rfl,h5,h6,_⟩:=ay o;rw[aM_];refine⟨A',c',w,?_,o,⟨rfl,rfl,rfl,B_ _,fun _ _ _=>rfl⟩,h5,h6,.inl rfl⟩
  rcases o.2 with ⟨hv,rfl⟩|⟨g,cap,cur,hv,_,_,a6,_⟩
  ·cases hv
   rcases A with _|a<;>simp[Builtin.append_,run_underlying Q,sizeOf,typeInfo,hi,Builtin.lenOf,Builtin.firstCells,loadCells,loadCellsFrom]
  ·cases hv
   rcases A with _|a<;>simp[Builtin.append_,run_underlying Q,sizeOf,typeInfo,hi,Builtin.lenOf,Builtin.firstCells,loadCells,loadCellsFrom,a6,storeCells]
 ·have O:0 < news.length:=by
   rw[J.len];exact cK_ h0 I
  obtain⟨a,rfl,_⟩:=J.some_ O;obtain⟨v',w',h2,h3,h4,_,h6⟩:=run_append_own_at (P:=P) (ty:=ty) w base t e i z size bytes Q hi hz E U a0 I v n xs o a m c news J.len J.cells h1 a1 C H;obtain⟨A',c',rfl,h5,h7,_⟩:=ay h3;exact⟨A',c',w',h2,h3,h4,h5,h7,h6⟩
theorem sk3 {P:Program} {w:World} {ops:Array Oper} {rest:List Oper} {o:Oper} {a:Act} {Q:Exit->Act->World->Prop} (O:o.guard=none) (s x:Operand) (t:TypeId)
  (ho:o.op=.call { callee:=.builtin .append,args:=#[s,x],argTypes:=#[t,t] })
  (base:Nat) (e:TypeId) (i:TypeInfo) (z:Value) (size bytes:Nat) (ht:P.underlying t=some (.slice e)) (hi:P.info? e=some i) (hz:i.zero=some z)
  (E:i.size=size) (U:i.bytes=bytes) (a0:z.cells.size=size) (a1:0 < size) (H:base<=(w:Nat)) (v:Value) (n:Nat) (xs:List Value) (hs:a.eval s=v) (I:w.ownsRow base e size v n xs)
  (B:Nat) (A:Option Addr) (m c:Nat) (news:List Value) (hx:a.eval x=.slice A m c) (hr:Row B w A m size news) (h1:∀u∈news,u.oneCell'=true)
  (N:Nat) (X:List Value) (hN:n+m=N) (hX:xs++news=X) (a2:N<=maxLen) (C:N *bytes<=140737488355328)
  (h:∀A' c' w',w'.ownsRow base e size (.slice A' N c') N X->w.grownBy w' v.ownBlock->N<=c'->c'<=maxLen->((Value.slice A' N c').ownBlock=v.ownBlock\/(Value.slice A' N c').ownBlock=some (w:Nat))->wpList P ops Q rest (a.put o.dst (.slice A' N c')) w'):wpList P ops Q (o::rest) a w:=by
 subst hN;subst hX;obtain⟨A',c',w',J,h3,h4,h5,h7,h6⟩:=zj2 (P:=P) w base t o.type e i z size bytes ht hi hz E U a0 a1 v n xs I B A m c news hr h1 a2 C H;refine wpList_plain O fun _ hK=>?_;unfold Oper.wp execOp;simp only[ho,resolve,invoke,builtin,Sem.run_bind,Sem.run_pure,Result.andThen_ok,bN_,al_,bc_,hs,hx,J];exact hK _ _ (h A' c' w' h3 h4 h5 h7 h6)
section
open It
namespace Tb
def cut (n:Nat):Nat->List It->List (List It)
 |0,_=>[]
 |f+1,l=>if l=[] then [] else l.take n::cut n f (l.drop n)
def rows (l:List It):List (List It):=cut 20 l.length l
def may (l:List It):Bool:=decide (l≠[]) &&decide (yj l) &&l.all ok
def blocks (l:List (List It)):List UInt8:=l.flatMap fun r=>Fr.put 2 (It.bytes r)
def index:Nat->List (List It)->List UInt8
 |_,[]=>[]
 |p,r::l=>Pn.put p++(It.bytes (r.take 1)++index (p+(Fr.put 2 (It.bytes r)).length) l)
def nz2 (n:Nat):Nat:=(max (n *10) 64+7) / 8
def places (size:Nat) (key:List UInt8):List Nat:=(List.range 7).map fun i=>(((Fnv.hash key).toNat % 4294967296+i *((Fnv.hash key).toNat / 4294967296)) % 4294967296) % (size *8)
def nw1 (b:List UInt8) (i:Nat):List UInt8:=b.set (i / 8) (b.getD (i / 8) 0|||UInt8.ofNat (2 ^ (i % 8)))
def addKey (b:List UInt8) (key:List UInt8):List UInt8:=(places b.length key).foldl nw1 b
def bits (l:List It):List UInt8:=l.foldl (fun b a=>addKey b a.key) (List.replicate (nz2 l.length) 0)
def filt (l:List It):List UInt8:=Pn.put 7++(Pn.put (bits l).length++bits l)
def make (l:List It):List UInt8:=
 let a:=blocks (rows l)
 let b:=a++Fr.put 3 (index 0 (rows l))
 b++(Fr.put 4 (filt l)++Fr.put 5 (Pn.put a.length++(Pn.put b.length++Pn.put l.length)))
def good (l:List It):Bool:=decide (l.length<=2000) &&decide (yj l) &&l.all ok
def parse:Nat->List UInt8->Nat->List (List It)
 |0,_,_=>[]
 |f+1,b,p=>if (Fr.take b p).2.2.2=0/\(Fr.take b p).1=2/\(It.read (Fr.take b p).2.1).2=0/\(It.read (Fr.take b p).2.1).1.length<=100/\may (It.read (Fr.take b p).2.1).1=true then
   (It.read (Fr.take b p).2.1).1::parse f b (Fr.take b p).2.2.1 else []
def open_ (b:List UInt8):Option (List (List It)):=
 if good (parse (b.length+1) b 0).flatten=true/\make (parse (b.length+1) b 0).flatten=b then some (parse (b.length+1) b 0) else none
theorem vq3 (n:Nat) (o:0 < n):∀(f:Nat) (l:List It),l.length<=f->(cut n f l).flatten=l
 |0,l,h=>by
  have:l=[]:=ae_.1 o_;simp[cut,this]
 |f+1,l,h=>by
  unfold cut;split
  ·simp[*]
  ·rename_i z
   have C:0 < l.length:=bu_.2 z;rw[bD_,vq3 n o f (l.drop n) (by rw[I_];omega),ag_]
theorem mx4 (l:List It):(rows l).flatten=l:=vq3 20 o_ _ _ l_
theorem vk2 (n:Nat) (z:0 < n):∀(f:Nat) (l:List It),∀r∈cut n f l,r≠[]/\r.length<=n/\r.Sublist l
 |0,l=>by simp[cut]
 |f+1,l=>by
  unfold cut;split
  ·simp
  ·rename_i C
   intro r o
   rcases h_.1 o with rfl|o
   ·exact⟨by simp[C];omega,by simp;omega,cv_ _ _⟩
   ·obtain⟨h1,h2,h3⟩:=vk2 n z f _ r o
    exact⟨h1,h2,h3.trans (List.drop_sublist _ _)⟩
theorem eq2 (n:Nat) (o:0 < n):∀(f:Nat) (l:List It),(cut n f l).length *n<=l.length+n - 1
 |0,l=>by simp[cut]
 |f+1,l=>by
  unfold cut;split
  ·simp
  ·rename_i z
   have E:0 < l.length:=bu_.2 z;have:=eq2 n o f (l.drop n);rw[I_]at this;rw[r_,cD_]
   rcases ad_ l.length n with h|h
   ·have C:l.length - n=0:=o_
    rw[C,am_]at this;have:(cut n f (l.drop n)).length=0:=by
     have h1:l.drop n=[]:=aC_ o_;rw[h1]
     cases f<;>simp[cut]
    rw[this];omega
   ·omega
theorem zw1:∀(rs:List (List It)) (f:Nat) (a t:List UInt8),(∀r∈rs,may r=true/\r.length<=100/\∀y∈r,y.fit)->rs.length < f->
  (Fr.take (a++(blocks rs++t)) (a.length+(blocks rs).length)).1≠2\/(Fr.take (a++(blocks rs++t)) (a.length+(blocks rs).length)).2.2.2≠0->parse f (a++(blocks rs++t)) a.length=rs
 |[],f,a,t,_,z,o=>by
  obtain⟨f,rfl⟩:∃g,f=g+1:=⟨f - 1,by simp at z;omega⟩;simp only[blocks,cA_,D_,R_,bp_]at o ⊢;unfold parse;rw[if_neg];rintro⟨h1,h2,_⟩
  rcases o with h|h
  ·exact h h2
  ·exact h h1
 |r::rs,f,a,t,I,z,o=>by
  obtain⟨f,rfl⟩:∃g,f=g+1:=⟨f - 1,by simp at z;omega⟩;obtain⟨h1,h2,h3⟩:=I r p_;have C:∀y∈r,y.ok=true:=by
   simp only[may,N_,Y_]at h1;exact h1.2
  have U:=It.aq1 r;have J:a++(blocks (r::rs)++t)=a++(Fr.put 2 (It.bytes r)++(blocks rs++t)):=by simp[blocks]
  have O:a++(Fr.put 2 (It.bytes r)++(blocks rs++t))=(a++Fr.put 2 (It.bytes r))++(blocks rs++t):=by simp
  have E:=Fr.rq a 2 (It.bytes r) (blocks rs++t) o_ o_ o_;have H:=It.rk1 (l:=r) (fun y Q=>⟨C y Q,h3 y Q⟩) o_;unfold parse;rw[J,E];simp only[H,true_and];rw[if_pos ⟨h2,h1⟩]
  congr 1
  have:=zw1 rs f (a++Fr.put 2 (It.bytes r)) t (fun q hq=>I q (f_ _ hq)) (by simp at z;omega) (by
   have e2:a.length+(blocks (r::rs)).length=(a++Fr.put 2 (It.bytes r)).length+(blocks rs).length:=by simp[blocks];omega
   rw[J,e2,O]at o;exact o)
  rw[<-O,e_]at this;exact this
theorem vz3 {l:List It} (h:good l=true) (z:∀y∈l,y.fit):∀r∈rows l,may r=true/\r.length<=100/\∀y∈r,y.fit:=by
 intro r C;simp only[good,N_,decide_eq_true_eq,Y_]at h;obtain⟨h1,h2,h3⟩:=vk2 20 o_ _ _ r C;refine⟨?_,o_,fun y o=>z y (h3.subset o)⟩;simp only[may,N_,decide_eq_true_eq,Y_];exact⟨⟨h1,h.1.2.sublist h3⟩,fun y o=>h.2 y (h3.subset o)⟩
theorem uw1:∀(p:Nat) (rs:List (List It)),(index p rs).length<=52 *rs.length
 |_,[]=>by simp[index]
 |p,r::rs=>by
  have h1:=uw1 (p+(Fr.put 2 (It.bytes r)).length) rs;have h2:=Pn.jq p;have h3:=It.aq1 (r.take 1);have h4:(r.take 1).length<=1:=by rw[y_];omega
  simp only[index,e_,r_];omega
theorem rv4 {l:List It} (h:good l=true) (z:∀y∈l,y.fit):open_ (make l)=some (rows l):=by
 have I:l.length<=2000:=by simp only[good,N_,decide_eq_true_eq]at h;exact h.1.1
 have C:(rows l).length<=100:=by
  have:=eq2 20 o_ l.length l;unfold rows;omega
 have E:=uw1 0 (rows l);have H:parse ((make l).length+1) (make l) 0=rows l:=by
  have e:make l=[] ++(blocks (rows l)++(Fr.put 3 (index 0 (rows l))++(Fr.put 4 (filt l)++Fr.put 5 (Pn.put (blocks (rows l)).length++(Pn.put (blocks (rows l)++Fr.put 3 (index 0 (rows l))).length++Pn.put l.length))))):=by
   simp[make]
  have o:(rows l).length < (make l).length+1:=by
   have:∀rs:List (List It),rs.length<=(blocks rs).length:=fun rs=>by
    induction rs with
    |nil=>simp
    |cons r rs J=>simp only[blocks,P_,e_,r_,Fr.oq]at *;omega
   have h1:=this (rows l);have h2:(blocks (rows l)).length<=(make l).length:=by rw[e];simp
   omega
  generalize (make l).length+1=f at *;rw[e];refine zw1 (rows l) f [] _ (vz3 h z) o (.inl ?_);rw[D_,R_,am_];rw[Fr.rq (blocks (rows l)) 3 (index 0 (rows l)) _ o_ o_ o_];exact(by decide:(3:Nat)≠2)
 unfold open_;rw[H,mx4,if_pos ⟨h,rfl⟩]
end Tb
namespace Lg
def batch (l:List It):List UInt8:=Fr.put 1 (It.bytes l)
def text (ls:List (List It)):List UInt8:=Fr.all 1 (ls.map It.bytes)
theorem fx2 (ls:List (List It)) (l:List It):text (ls++[l])=text ls++batch l:=by simp[text,Fr.all,batch]
theorem fy2 (l:List It):(batch l).length<=22+32 *l.length:=by
 have:=It.aq1 l;rw[batch,Fr.oq];omega
end Lg
end
theorem my5 (h:BitVec 64) (c:UInt8):IntKind.u64.wrap (bits .xor .u64 (h.toNat:Int) (IntKind.u64.wrap (c.toNat:Int))*1099511628211)=((Fnv.byte h c).toNat:Int):=by
 have h1:IntKind.u64.wrap (c.toNat:Int)=((BitVec.ofNat 64 c.toNat).toNat:Int):=by
  rw[<-aw6,IntKind.wrap_u64];have:=c.toNat_lt;omega
 rw[h1,nv2,IntKind.wrap_u64,Fnv.byte,BitVec.toNat_mul];rfl
theorem wq3 (A:Option Addr) (n c:Nat) (l:List UInt8) (w:World) (E:n<=9223372036854775807) (z:Row w w A n 1 (bts l)):
  Calls Tryz.prog 164 #[.slice A n c] w fun e w'=>e=.returned (.int .u64 ((Fnv.hash l).toNat:Int))/\w=w':=by
 go_enter Tryz.func164,Tryz.ntmps164;go_wp2
 go_loop [3,8,5] (fun x i _=>∃k:Nat,k<=n/\i=.int .i64 k/\x=.int .u64 ((Fnv.go Fnv.basis (l.take k)).toNat:Int)) (fun _ i _=>n - (intOf i).toNat)
 case atStart=>exact⟨0,A_ _,rfl,rfl⟩
 case round=>
  obtain⟨k,H,rfl,rfl⟩:=hrel
  by_cases o:k < n
  ·obtain⟨a,C,rfl,_,I⟩:=z.bt o
   go_wp2
   go_round
   case rel=>exact⟨k+1,o_,by go_num,int_eq (by rw[Fnv.sw5 _ _ _ C,my5])⟩
   case measure=>simp[intOf];omega
  ·go_wp2
   go_ret;exact⟨bq4 (int_eq (by rw[i_ (by have:=z.xk;omega)];rfl)),rfl⟩
section
end
section
end
theorem ek4 (g j:Nat) (x:Int) (w:World) (o:w.cell? (g,j)=some (.int .i64 x)):
  Calls prog 181 #[.pointer (some ⟨g,j,none⟩)] w fun e w'=>e=.returned (.int .i64 x)/\w'=w:=by
 have z:=run_call_load (P:=prog) func231 (by kernel_rfl) (by kernel_rfl) (by kernel_rfl) .i64 (by kernel_rfl) o;go_enter func181,ntmps181;go_wp2;go_ret;exact⟨rfl,rfl⟩
theorem sk1 (g j:Nat) (x y:Int) (w:World) (o:w.cell? (g,j)=some (.int .i64 x)) (z:w.frozen? (g,j)=false):
  Calls prog 91 #[.pointer (some ⟨g,j,none⟩),y] w fun e w'=>e=.returned (.tuple #[])/\w'=w.setCell (g,j) y:=by
 have C:=run_call_store (P:=prog) func156 (by kernel_rfl) (by kernel_rfl) (by kernel_rfl) (by kernel_rfl) (k:=.i64) (y:=y) o z;go_enter func91,ntmps91;go_wp2;exact bodyPost_end (v:=.tuple #[]) (by simp[results,go_sem]) rfl ⟨rfl,rfl⟩
theorem tz4 (g j:Nat) (x:Int) (w:World) (H:0<=x) (h1:x<=1000000000) (C:w.cell? (g,j)=some (.int .i64 x)) (E:w.frozen? (g,j)=false):
  Calls prog 189 #[.pointer (some ⟨g,j,none⟩),.int .i64 1] w fun e w'=>e=.returned (.int .i64 (x+1))/\w'=w.setCell (g,j) (.int .i64 (x+1)):=by
 have o:IntKind.i64.wrap (x+1)=x+1:=M_ _ o_;have z:=run_call_add (P:=prog) func235 (by kernel_rfl) (by kernel_rfl) (by kernel_rfl) .i64 (by kernel_rfl) (y:=1) (s:=x+1) C E (by simp[go_sem,o]);go_enter func189,ntmps189;go_wp2;go_ret;exact⟨rfl,rfl⟩
theorem jj1 {w:World} {base size n c:Nat} {e:TypeId} {a:Addr} {xs:List Value} (h:w.ownsRow base e size (.slice (some a) n c) n xs):
  ∃g cur,a=⟨g,0,none⟩/\base<=g/\BoxO w e g cur/\cur.length=c *size/\n<=c/\c<=maxLen/\cur.take (n *size)=xs:=by
 rcases h.2 with ⟨o,_⟩|⟨g,cap,cur,h1,z,C,E,H,I,J⟩
 ·cases o
 ·injection h1 with h2 h3 h4
  injection h2 with h2;subst h2 h4;exact⟨g,cur.toList,rfl,z,by simpa [BoxO] using C,by simpa using I,E,H,J⟩
theorem oj3 {w:World} {base size n c g:Nat} {e:TypeId} {cur:List Value} (C:base<=g) (h:BoxO w e g cur) (o:cur.length=c *size) (z:n<=c) (E:c<=maxLen):w.ownsRow base e size (.slice (some g) n c) n (cur.take (n *size)):=
 ⟨by rw[y_,o];exact aQ_ (ba_ _ z),.inr ⟨g,c,cur.toArray,rfl,C,h,z,E,by simpa using o,by simp⟩⟩
theorem uy3 {w:World} {base size n c:Nat} {e:TypeId} {xs:List Value} (h:w.ownsRow base e size (.slice none n c) n xs):n=0/\c=0:=by
 rcases h.2 with ⟨o,_⟩|⟨g,cap,cur,h1,_⟩
 ·injection o with _ h1 h2
  exact⟨h1,h2⟩
 ·cases h1
section
variable {P:Program} {ops:Array Oper} {Q:Exit->Act->World->Prop} {md:Region.Mode}
theorem uq1 {L:Array Bool} {i:Nat}:i∈Region.ready md ops L↔i < ops.size/\L.getD i true=false/\((ops[i]?).map (·.after.all fun e=>!Region.binds md e||L.getD e.on false)).getD false=true:=by
 unfold Region.ready;rw[ac_,bd_];simp
theorem count_set {l:List Bool} {i:Nat} (h:l[i]?=some false):(l.set i true).count false+1=l.count false:=by
 induction l generalizing i with
 |nil=>simp at h
 |cons b l o=>
  cases i with
  |zero=>
   simp at h;subst h;simp
  |succ i=>
   have:=o (i:=i) (by simpa using h);simp only[Q_,List.count_cons];omega
theorem ex3 (J:Array Bool->Act->World->Prop)
  (O:∀L a w i,L.size=ops.size->J L a w->i∈Region.ready md ops L->wpOp P ops Q i (fun E w'=>J (L.setIfInBounds i true) E w') a w)
  (H:∀L a w,L.size=ops.size->J L a w->Region.ready md ops L=[]->Q .normal a w):
  ∀(n:Nat) (L:Array Bool) (a:Act) (w:World),L.size=ops.size->L.toList.count false<=n->J L a w->wpAny P md ops Q n L a w
 |0,L,a,w,o,U,z=>by
  have C:Region.ready md ops L=[]:=by
   refine List.eq_nil_iff_forall_not_mem.2 fun i hi=>?_;obtain⟨h1,h2,_⟩:=uq1.1 hi;have h3:L.toList[i]?=some false:=by
    have h4:i < L.size:=o_
    rw[aB_,aa_ h4]at h2;rw[bA_,aa_ h4];simpa using h2
   have:=count_set h3;omega
  exact⟨C,H L a w o z C⟩
 |n+1,L,a,w,o,U,z=>by
  refine⟨fun C=>H L a w o z C,fun i hi=>?_⟩;refine wpOp_mono (fun E w' I=>?_) (O L a w i o z hi);obtain⟨h1,h2,_⟩:=uq1.1 hi;have h3:L.toList[i]?=some false:=by
   have h4:i < L.size:=o_
   rw[aB_,aa_ h4]at h2;rw[bA_,aa_ h4];simpa using h2
  have:=count_set h3;exact ex3 J O H n _ E w' (by simpa using o) (by simp only[bF_];omega) I
theorem qw2 (z:((List.range ops.size).all fun i=>((ops[i]?).map (·.after.all fun e=>decide (e.on < i))).getD false)=true) {L:Array Bool} (E:L.size=ops.size) (h:Region.ready md ops L=[]):∀(n i:Nat),i < n->i < ops.size->L.getD i false=true
 |0,i,h1,_=>o_
 |n+1,i,h1,h2=>by
  have H:=qw2 z E h n;have hi:i∉Region.ready md ops L:=by rw[h];exact ar_
  rw[uq1]at hi;have I:i < L.size:=o_
  cases C:L.getD i false with
  |true=>rfl
  |false=>
   exfalso;refine hi ⟨h2,?_,?_⟩
   ·rw[aB_,aa_ I]at C ⊢
    simpa using C
   ·have o:=Y_.1 z i (bd_.2 h2)
    rw[aa_ h2]at o ⊢;simp only[aR_,Option.getD_some,Array.all_eq_true,decide_eq_true_eq]at o ⊢;intro k J;have:=o k J;rw[H _ o_ o_];simp
theorem zz2 {id:Nat} {a:Act} {w:World} (o:P.follows .mixedOrders=true) (J:Array Bool->Act->World->Prop)
  (z:J (Array.replicate ops.size false) a w.drew)
  (C:∀L a w i,L.size=ops.size->J L a w->i∈Region.ready .any ops L->wpOp P ops Q i (fun E w'=>J (L.setIfInBounds i true) E w') a w)
  (H:∀L a w,L.size=ops.size->J L a w->Region.ready .any ops L=[]->Q .normal a w):(Code.region id ops true).wp P Q a w:=
 wp_region_any o (ex3 J C H _ _ _ _ s_ s_ z)
end
namespace Crc
end Crc
namespace Crc
end Crc
namespace Crc
end Crc
end Go.Proofs.YtfbkjjdfboagfaaGreatDoor
