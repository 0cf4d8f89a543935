/- Some of the texts. No conditions. -/
import Derived.Test.YtkdbagdiplpcfaaGreatDoorBunAA
import Derived.BigQuiet
import Derived.Lib.MinMax

set_option linter.unusedSimpArgs false
set_option linter.unusedVariables false
set_option maxRecDepth 100000
set_option maxHeartbeats 16000000
namespace Go.Proofs.YtkdbagdiplpcfaaGreatDoor
open Go.Proofs.Tryz Go Go.RowKit Go.Lib Go.Shelf
theorem fz1 (a b:It) (w:World):Calls prog 98 #[a.val,b.val] w fun e w'=>e=.returned (.bool (a.less b))/\Below w.heap.size w w':=by
 obtain⟨I,J,t1,U,Z⟩:=a;obtain⟨O,Q,t2,v2,x2⟩:=b;have E:=(b_ w (.cells #[.int .i64 I,.int .i64 J,.int .u64 (t1:Int),.int .u64 (U:Int),.int .i64 Z] 49)).alloc s_ (.cells #[.int .i64 O,.int .i64 Q,.int .u64 (t2:Int),.int .u64 (v2:Int),.int .i64 x2] 49);obtain⟨r,C⟩:=n_ (It.less ⟨I,J,t1,U,Z⟩ ⟨O,Q,t2,v2,x2⟩);rw[<-C];unfold It.less at C;unfold It.val;simp only at C ⊢
 by_cases h1:I=O
 ·subst h1
  by_cases h2:J=Q
  ·subst h2
   by_cases h3:(t1:Int) < (t2:Int)
   ·have h4:t1 < t2:=o_
    have H:=H_ (C.trans (show _=true by simp[h4]));clear C;go_enter func98,ntmps98;go_wp2;go_ret;exact⟨ik H.out.symm,E⟩
   ·have h4:¬t1 < t2:=o_
    have H:=H_ (C.trans (show _=false by simp[h4]));clear C;go_enter func98,ntmps98;go_wp2;go_ret;exact⟨ik H.out.symm,E⟩
  ·have e2:(J==Q)=false:=by simpa using h2
   by_cases h3:J < Q
   ·have H:=H_ (C.trans (show _=true by simp[h2,h3]))
    clear C;go_enter func98,ntmps98;go_wp2;go_ret;exact⟨ik H.out.symm,E⟩
   ·have H:=H_ (C.trans (show _=false by simp[h2,h3]))
    clear C;go_enter func98,ntmps98;go_wp2;go_ret;exact⟨ik H.out.symm,E⟩
 ·have e1:(I==O)=false:=by simpa using h1
  by_cases h3:I < O
  ·have H:=H_ (C.trans (show _=true by simp[h1,h3]))
   clear C;go_enter func98,ntmps98;go_wp2;go_ret;exact⟨ik H.out.symm,E⟩
  ·have H:=H_ (C.trans (show _=false by simp[h1,h3]))
   clear C;go_enter func98,ntmps98;go_wp2;go_ret;exact⟨ik H.out.symm,E⟩
theorem fk2 (a b:It) (w:World):Calls prog 101 #[a.val,b.val] w fun e w'=>e=.returned (.bool (a.wins b))/\Below w.heap.size w w':=by
 obtain⟨U,Z,t1,H,O⟩:=a;obtain⟨s2,k2,t2,I,Q⟩:=b;have E:=(b_ w (.cells #[.int .i64 U,.int .i64 Z,.int .u64 (t1:Int),.int .u64 (H:Int),.int .i64 O] 49)).alloc s_ (.cells #[.int .i64 s2,.int .i64 k2,.int .u64 (t2:Int),.int .u64 (I:Int),.int .i64 Q] 49);obtain⟨r,C⟩:=n_ (It.wins ⟨U,Z,t1,H,O⟩ ⟨s2,k2,t2,I,Q⟩);rw[<-C];unfold It.wins at C;unfold It.val;simp only at C ⊢
 by_cases h1:(I:Int) < (H:Int)
 ·have h4:I < H:=o_
  have J:=H_ (C.trans (show _=true by simp[h4]));clear C;go_enter func101,ntmps101;go_wp2;go_ret;exact⟨ik J.out.symm,E⟩
 ·have h4:¬I < H:=o_
  by_cases h2:H=I
  ·subst h2
   by_cases h3:Q < O
   ·have J:=H_ (C.trans (show _=true by simp[h3]))
    clear C;go_enter func101,ntmps101;go_wp2;go_ret;exact⟨ik J.out.symm,E⟩
   ·have J:=H_ (C.trans (show _=false by simp[h3]))
    clear C;go_enter func101,ntmps101;go_wp2;go_ret;exact⟨ik J.out.symm,E⟩
  ·have e2:((H:Int)==(I:Int))=false:=by rw[beq_eq_false_iff_ne];omega
   have J:=H_ (C.trans (show _=false by simp[h4,h2]));clear C;go_enter func101,ntmps101;go_wp2;go_ret;exact⟨ik J.out.symm,E⟩
theorem sv2 (a b:It) (w:World):Calls prog 193 #[a.val,b.val] w fun e w'=>e=.returned (.bool (a.hides b))/\Below w.heap.size w w':=by
 obtain⟨O,Q,t1,I,x1⟩:=a;obtain⟨U,Z,t2,J,x2⟩:=b;have E:=(b_ w (.cells #[.int .i64 O,.int .i64 Q,.int .u64 (t1:Int),.int .u64 (I:Int),.int .i64 x1] 49)).alloc s_ (.cells #[.int .i64 U,.int .i64 Z,.int .u64 (t2:Int),.int .u64 (J:Int),.int .i64 x2] 49);obtain⟨r,C⟩:=n_ (It.hides ⟨O,Q,t1,I,x1⟩ ⟨U,Z,t2,J,x2⟩);rw[<-C];unfold It.hides at C;unfold It.val;simp only at C ⊢
 by_cases h1:Q=1
 ·subst h1
  by_cases h2:Z=2
  ·subst h2
   by_cases h3:O=U
   ·subst h3
    by_cases h4:(J:Int)<=(I:Int)
    ·have h5:J<=I:=o_
     have H:=H_ (C.trans (show _=true by simp[h5]));clear C;go_enter func193,ntmps193;go_wp2;go_ret;exact⟨ik H.out.symm,E⟩
    ·have h5:¬J<=I:=o_
     have H:=H_ (C.trans (show _=false by simp[h5]));clear C;go_enter func193,ntmps193;go_wp2;go_ret;exact⟨ik H.out.symm,E⟩
   ·have e3:(O==U)=false:=by simpa using h3
    have H:=H_ (C.trans (show _=false by simp[h3]));clear C;go_enter func193,ntmps193;go_wp2;go_ret;exact⟨ik H.out.symm,E⟩
  ·have e2:(Z==2)=false:=by simpa using h2
   have H:=H_ (C.trans (show _=false by simp[h2]));clear C;go_enter func193,ntmps193;go_wp2;go_ret;exact⟨ik H.out.symm,E⟩
 ·have e1:(Q==1)=false:=by simpa using h1
  have H:=H_ (C.trans (show _=false by simp[h1]));clear C;go_enter func193,ntmps193;go_wp2;go_ret;exact⟨ik H.out.symm,E⟩
theorem kk2 (a b:It) (w:World):Calls prog 100 #[a.val,b.val] w fun e w'=>e=.returned (.bool (a.same b))/\Below w.heap.size w w':=by
 obtain⟨H,I,t1,J,O⟩:=a;obtain⟨Q,U,t2,Z,x2⟩:=b;have a9:=(b_ w (.cells #[.int .i64 H,.int .i64 I,.int .u64 (t1:Int),.int .u64 (J:Int),.int .i64 O] 49)).alloc s_ (.cells #[.int .i64 Q,.int .i64 U,.int .u64 (t2:Int),.int .u64 (Z:Int),.int .i64 x2] 49);have hl:=fun W=>fz1 ⟨H,I,t1,J,O⟩ ⟨Q,U,t2,Z,x2⟩ W;have E:=fun W=>fz1 ⟨Q,U,t2,Z,x2⟩ ⟨H,I,t1,J,O⟩ W;unfold It.val It.same;unfold It.val at hl E;simp only at hl E ⊢;generalize It.less ⟨H,I,t1,J,O⟩ ⟨Q,U,t2,Z,x2⟩=p at *;generalize It.less ⟨Q,U,t2,Z,x2⟩ ⟨H,I,t1,J,O⟩=q at *;have HL:=H_ hl;have a':=H_ E;have hA:=(BoxO.new w #[.int .i64 H,.int .i64 I,.int .u64 (t1:Int),.int .u64 (J:Int),.int .i64 O] 49).alloc (.cells #[.int .i64 Q,.int .i64 U,.int .u64 (t2:Int),.int .u64 (Z:Int),.int .i64 x2] 49);have hB:=BoxO.new (w.alloc (.cells #[.int .i64 H,.int .i64 I,.int .u64 (t1:Int),.int .u64 (J:Int),.int .i64 O] 49)) #[.int .i64 Q,.int .i64 U,.int .u64 (t2:Int),.int .u64 (Z:Int),.int .i64 x2] 49;rw[Q_]at hB;clear hl E
 cases p with
 |true=>
  clear hA hB a';go_enter func100,ntmps100;go_wp2_with fail;refine(HL.out _).mono ?_;rintro e w1 ⟨rfl,C⟩;have a6:=az a9 C;go_wp2;go_ret;exact⟨rfl,a6⟩
 |false=>
  go_enter func100,ntmps100;go_wp2_with fail;refine(HL.out _).mono ?_;rintro e w1 ⟨rfl,C⟩;have a6:=az a9 C;have kA:=hA.below C;have kB:=hB.below C;have a0:=kA.c0;have a1:=kA.c1;have a2:=kA.c2;have a3:=kA.c3;have a4:=kA.c4;have b0:=kB.c0;have b1:=kB.c1;have b2:=kB.c2;have b3:=kB.c3;have b4:=kB.c4;clear hA hB kA kB HL;go_wp2_with fail;refine(a'.out _).mono ?_;rintro e w2 ⟨rfl,b9⟩;have b':=az a6 b9
  cases q
  all_goals
   go_wp2;go_ret;exact⟨rfl,b'⟩
theorem sk1 (a:It) (w:World):Calls prog 124 #[a.val] w fun e w'=>e=.returned (.bool a.ok)/\Below w.heap.size w w':=by
 obtain⟨I,O,t1,J,Q⟩:=a;have E:=b_ w (.cells #[.int .i64 I,.int .i64 O,.int .u64 (t1:Int),.int .u64 (J:Int),.int .i64 Q] 49);obtain⟨r,C⟩:=n_ (It.ok ⟨I,O,t1,J,Q⟩);rw[<-C];unfold It.ok at C;unfold It.val;simp only at C ⊢
 by_cases h1:I < 0
 ·have U:¬0<=I:=o_
  have H:=H_ (C.trans (show _=false by simp[U]));clear C;go_enter func124,ntmps124;go_wp2;go_ret;exact⟨ik H.out.symm,E⟩
 have U:0<=I:=o_
 by_cases h2:255 < I
 ·have Z:¬I<=255:=o_
  have H:=H_ (C.trans (show _=false by simp[Z]));clear C;go_enter func124,ntmps124;go_wp2;go_ret;exact⟨ik H.out.symm,E⟩
 have Z:I<=255:=o_
 by_cases h3:(J:Int) < 1
 ·have g3:¬1<=J:=o_
  have H:=H_ (C.trans (show _=false by simp[g3]));clear C;go_enter func124,ntmps124;go_wp2;go_ret;exact⟨ik H.out.symm,E⟩
 have g3:1<=J:=o_
 by_cases h4:281474976710656 < (J:Int)
 ·have g4:¬J<=281474976710656:=o_
  have H:=H_ (C.trans (show _=false by simp[g4]));clear C;go_enter func124,ntmps124;go_wp2;go_ret;exact⟨ik H.out.symm,E⟩
 have g4:J<=281474976710656:=o_
 by_cases h5:O=1
 ·subst h5
  by_cases h6:t1=0
  ·subst h6
   by_cases h7:Q=0
   ·subst h7
    have H:=H_ (C.trans (show _=true by simp[U,Z,g3,g4]));clear C;go_enter func124,ntmps124;go_wp2;go_ret;exact⟨ik H.out.symm,E⟩
   ·have e7:(Q==0)=false:=by simpa using h7
    have H:=H_ (C.trans (show _=false by simp[h7]));clear C;go_enter func124,ntmps124;go_wp2;go_ret;exact⟨ik H.out.symm,E⟩
  ·have e6:((t1:Int)==0)=false:=by rw[beq_eq_false_iff_ne];omega
   have H:=H_ (C.trans (show _=false by simp[h6]));clear C;go_enter func124,ntmps124;go_wp2;go_ret;exact⟨ik H.out.symm,E⟩
 have e5:(O==1)=false:=by simpa using h5
 by_cases h8:O=2
 ·subst h8
  by_cases h9:(t1:Int)<=1099511627776
  ·have g9:t1<=1099511627776:=o_
   have H:=H_ (C.trans (show _=true by simp[U,Z,g3,g4,g9]));clear C;go_enter func124,ntmps124;go_wp2;go_ret;exact⟨ik H.out.symm,E⟩
  ·have g9:¬t1<=1099511627776:=o_
   have H:=H_ (C.trans (show _=false by simp[g9]));clear C;go_enter func124,ntmps124;go_wp2;go_ret;exact⟨ik H.out.symm,E⟩
 have e8:(O==2)=false:=by simpa using h8
 have H:=H_ (C.trans (show _=false by simp[h5,h8]));clear C;go_enter func124,ntmps124;go_wp2;go_ret;exact⟨ik H.out.symm,E⟩
def e8 (n:Nat):List UInt8:=[56,48,40,32,24,16,8,0].map fun k=>UInt8.ofNat (n / 2 ^ k)
theorem sk5 (n:Nat) {k:Nat} (C:k < 8):(e8 n).take (k+1)=(e8 n).take k++[UInt8.ofNat (n / 2 ^ (56 - 8 *k))]:=by
 have e:k=0\/k=1\/k=2\/k=3\/k=4\/k=5\/k=6\/k=7:=o_
 rcases e with rfl|rfl|rfl|rfl|rfl|rfl|rfl|rfl<;>rfl
theorem kj4 (A:Option Addr) (N c:Nat) (l:List UInt8) (n:Nat) (hn:n < 18446744073709551616) (w:World) (hN:N<=1073741824) (hr:Row w.heap.size w A N 1 (bts l)):
  Calls prog 165 #[.slice A N c,.int .u64 (n:Int)] w fun e w'=>∃A' C,e=.returned (.slice A' (N+8) C)/\
   w'.ownsRow w.heap.size 5 1 (.slice A' (N+8) C) (N+8) (bts (l++e8 n))/\N+8<=C/\C<=maxLen/\Below w.heap.size w w':=by
 obtain⟨i0,O,Q,U,Z⟩:=info_parts fj1;go_enter func165,ntmps165;go_wp2_with (at_builtin;refine iy ?_);refine bz (vw rfl (.const (.slice none 0 0)) (.tmp 7) _ rfl w.heap.size 5 i0 _ 1 1 underlying150 O Q U Z rfl o_ w b0_ l_ rfl w.heap.size A N c (bts l) rfl hr (av1 l) (by unfold maxLen;omega) o_ ?_);intro A2 c2 w2 J a2 b5 a4 a5;go_wp2
 go_loopw [5,6] (fun o m wr=>∃(k:Nat) (A':Option Addr) (C:Nat),k<=8/\o=.slice A' (N+k) C/\m=.int .i64 (56 - 8 *(k:Int))/\wr.ownsRow w.heap.size 5 1 (.slice A' (N+k) C) (N+k) (bts (l++(e8 n).take k))/\N+k<=C/\C<=maxLen/\Below w.heap.size w wr) (fun _ m _=>(intOf m+8).toNat)
 case atStart=>exact⟨0,A2,c2,o_,rfl,rfl,by simpa using J,a4,a5,a2⟩
 case round=>
  obtain⟨k,A',C,hk,rfl,rfl,H,a6,a7,hb⟩:=hrel;have HO:=H_ H;clear H
  by_cases a8:k < 8
  ·have h0:8 *(k:Int)<=56:=o_
   go_wp2_with (at_builtin;refine iy ?_);have I:Row (wr.heap.size+1) (wr.alloc (.cells #[.int .u8 ((UInt8.ofNat (n / 2 ^ (56 - 8 *k))).toNat:Int)] 5)) (some ⟨wr.heap.size,0,none⟩) 1 1 (bts [UInt8.ofNat (n / 2 ^ (56 - 8 *k))]):=jj3 _ _ _;refine bz (iq rfl (.tmp 13) (.tmp 18) _ rfl w.heap.size 5 i0 _ 1 1 underlying150 O Q U Z rfl o_ w (hb.alloc hb.size _) (j_ hb.size s_) _ (N+k) (bts (l++(e8 n).take k)) rfl (HO.out.alloc _) (wr.heap.size+1) _ 1 1 (bts [UInt8.ofNat (n / 2 ^ (56 - 8 *k))]) rfl I (av1 _) (N+(k+1)) (bts (l++(e8 n).take (k+1))) o_ (by rw[sk5 n a8];simp[bts]) (by unfold maxLen;omega) o_ ?_);intro A3 c3 w3 E a9 _ a' b0;have b1:=H_ E;clear E HO I;go_wp2;go_roundw
   case rel=>exact⟨k+1,A3,c3,o_,rfl,by go_num,b1.out,a',b0,a9⟩
   case measure=>simp[intOf];omega
  ·obtain rfl:k=8:=o_
   have HF:=H_ (show wr.ownsRow w.heap.size 5 1 (.slice A' (N+8) C) (N+8) (bts (l++e8 n)) from HO.out);clear HO;go_wp2;go_ret;exact⟨A',C,rfl,HF.out,a6,a7,hb⟩
theorem qk3 {x:Int} (C:0<=x) (h1:x<=255):IntKind.u8.wrap x=((UInt8.ofNat x.toNat).toNat:Int):=by
 rw[<-fz2];simp only[IntKind.wrap_u8];omega
theorem uk2 (x:It) (J:x.ok=true) (w:World):
  Calls prog 89 #[x.val] w fun e w'=>∃A' C,e=.returned (.slice A' 10 C)/\w'.ownsRow w.heap.size 5 1 (.slice A' 10 C) 10 (bts x.key)/\10<=C/\C<=maxLen/\Below w.heap.size w w':=by
 rw[It.uy3]at J;have e1:=qk3 (x:=x.s) o_ o_;have e2:=qk3 (x:=x.k) o_ o_;have ht:x.t < 18446744073709551616:=o_
 have O:=fun(W:World) (A:Option Addr) (c:Nat) hr=>kj4 A 2 c [UInt8.ofNat x.s.toNat,UInt8.ofNat x.k.toNat] x.t ht W o_ hr;have HK:=H_ (show [UInt8.ofNat x.s.toNat,UInt8.ofNat x.k.toNat] ++e8 x.t=x.key from rfl);unfold It.val;generalize UInt8.ofNat x.s.toNat=E at *;generalize UInt8.ofNat x.k.toNat=H at *;have Q:=b_ w (.cells #[.int .i64 x.s,.int .i64 x.k,.int .u64 (x.t:Int),.int .u64 (x.v:Int),.int .i64 x.x] 49);have U:=H_ O;have Z:=H_ Q;clear O J Q;go_enter func89,ntmps89;go_wp2_with fail;have hrow:Row ((w.alloc (.cells #[.int .i64 x.s,.int .i64 x.k,.int .u64 (x.t:Int),.int .u64 (x.v:Int),.int .i64 x.x] 49)).alloc (.cells #[.int .u8 (E.toNat:Int),.int .u8 (H.toNat:Int)] 5)).heap.size ((w.alloc (.cells #[.int .i64 x.s,.int .i64 x.k,.int .u64 (x.t:Int),.int .u64 (x.v:Int),.int .i64 x.x] 49)).alloc (.cells #[.int .u8 (E.toNat:Int),.int .u8 (H.toNat:Int)] 5)) (some ⟨w.heap.size+1,0,none⟩) 2 1 (bts [E,H]):=by
  have:=Row.new (w.alloc (.cells #[.int .i64 x.s,.int .i64 x.k,.int .u64 (x.t:Int),.int .u64 (x.v:Int),.int .i64 x.x] 49)) #[.int .u8 (E.toNat:Int),.int .u8 (H.toNat:Int)] 5 (n:=2) (size:=1) rfl;simpa [bts] using this
 have hb:=Z.out.alloc Z.out.size (.cells #[.int .u8 (E.toNat:Int),.int .u8 (H.toNat:Int)] 5);refine(U.out _ _ _ hrow).mono ?_;rintro e w2 ⟨A',C,rfl,I,h1,h2,h3⟩;rw[HK.out]at I;have HO:=H_ (own_base (base':=w.heap.size) I hb.size);clear I hrow U;go_wp2;go_ret;exact⟨A',C,rfl,HO.out,h1,h2,az hb h3⟩
theorem ix4 (x:It) (E:x.ok=true) (w:World):
  Calls prog 89 #[x.val] w fun e w'=>∃A' C,e=.returned (.slice A' 10 C)/\Row w'.heap.size w' A' 10 1 (bts x.key)/\10<=C/\C<=maxLen/\Below w.heap.size w w':=
 (uk2 x E w).mono fun _ _ ⟨A',C,a,b,c,d,e⟩=>⟨A',C,a,Row.own b,c,d,e⟩
theorem mv5 (x:Int) (h1:-9223372036854775808<=x) (h2:x < 9223372036854775808):
  bits .xor .u64 (IntKind.u64.wrap (IntKind.u64.wrap x *2)) (IntKind.u64.wrap (x / 9223372036854775808))=(sgn x:Int):=by
 have key:∀a b:Nat,a < 2 ^ 64->b < 2 ^ 64->bits .xor .u64 (a:Int) (b:Int)=((BitVec.ofNat 64 a ^^^ BitVec.ofNat 64 b).toNat:Int):=fun a b I J=>by
  have:=rx2 (BitVec.ofNat 64 a) (BitVec.ofNat 64 b);rw[BitVec.toNat_ofNat,BitVec.toNat_ofNat,aB_ I,aB_ J]at this;exact this
 unfold sgn;simp only[IntKind.wrap_u64]
 by_cases H:0<=x
 ·rw[if_pos H]
  have C:x / 9223372036854775808 % 18446744073709551616=((0:Nat):Int):=o_
  have E:x % 18446744073709551616 *2 % 18446744073709551616=((2 *x).toNat:Int):=o_
  rw[C,E,key _ _ o_ o_];simp;omega
 ·rw[if_neg H]
  have C:x / 9223372036854775808 % 18446744073709551616=((18446744073709551615:Nat):Int):=o_
  have E:x % 18446744073709551616 *2 % 18446744073709551616=((2 *x+18446744073709551616).toNat:Int):=o_
  rw[C,E,key _ _ o_ o_];have O:BitVec.ofNat 64 18446744073709551615=BitVec.allOnes 64:=by decide
  rw[O,BitVec.xor_allOnes,BitVec.toNat_not,BitVec.toNat_ofNat];omega
theorem bk5 (x:Int) (h1:-9223372036854775808<=x) (h2:x < 9223372036854775808) (w:World):
  Calls prog 251 #[.int .i64 x] w fun e w'=>e=.returned (.int .u64 (sgn x:Int))/\w'=w:=by
 go_enter func251,ntmps251;have C:=H_ (mv5 x h1 h2);go_wp2;rw[C.out];go_ret;exact⟨rfl,rfl⟩
section
open It
namespace Tb
def cut (n:Nat):Nat->List It->List (List It)
 |0,_=>[]
 |f+1,l=>if l=[] then [] else l.take n::cut n f (l.drop n)
def rows (l:List It):List (List It):=cut 20 l.length l
def may (l:List It):Bool:=decide (l≠[]) &&decide (qx l) &&l.all ok
def blocks (l:List (List It)):List UInt8:=l.flatMap fun r=>Fr.put 2 (It.bytes r)
def index:Nat->List (List It)->List UInt8
 |_,[]=>[]
 |p,r::l=>Pn.put p++(It.bytes (r.take 1)++index (p+(Fr.put 2 (It.bytes r)).length) l)
def mz2 (n:Nat):Nat:=(max (n *10) 64+7) / 8
def places (size:Nat) (key:List UInt8):List Nat:=(List.range 7).map fun i=>(((Fnv.hash key).toNat % 4294967296+i *((Fnv.hash key).toNat / 4294967296)) % 4294967296) % (size *8)
def nv1 (b:List UInt8) (i:Nat):List UInt8:=b.set (i / 8) (b.getD (i / 8) 0|||UInt8.ofNat (2 ^ (i % 8)))
def addKey (b:List UInt8) (key:List UInt8):List UInt8:=(places b.length key).foldl nv1 b
def bits (l:List It):List UInt8:=l.foldl (fun b a=>addKey b a.key) (List.replicate (mz2 l.length) 0)
def filt (l:List It):List UInt8:=Pn.put 7++(Pn.put (bits l).length++bits l)
def make (l:List It):List UInt8:=
 let a:=blocks (rows l)
 let b:=a++Fr.put 3 (index 0 (rows l))
 b++(Fr.put 4 (filt l)++Fr.put 5 (Pn.put a.length++(Pn.put b.length++Pn.put l.length)))
def good (l:List It):Bool:=decide (l.length<=2000) &&decide (qx l) &&l.all ok
def parse:Nat->List UInt8->Nat->List (List It)
 |0,_,_=>[]
 |f+1,b,p=>if (Fr.take b p).2.2.2=0/\(Fr.take b p).1=2/\(It.read (Fr.take b p).2.1).2=0/\(It.read (Fr.take b p).2.1).1.length<=100/\may (It.read (Fr.take b p).2.1).1=true then
   (It.read (Fr.take b p).2.1).1::parse f b (Fr.take b p).2.2.1 else []
def open_ (b:List UInt8):Option (List (List It)):=
 if good (parse (b.length+1) b 0).flatten=true/\make (parse (b.length+1) b 0).flatten=b then some (parse (b.length+1) b 0) else none
theorem xy2 (n:Nat) (C:0 < n):∀(f:Nat) (l:List It),l.length<=f->(cut n f l).flatten=l
 |0,l,h=>by
  have:l=[]:=ag_.1 o_;simp[cut,this]
 |f+1,l,h=>by
  unfold cut;split
  ·simp[*]
  ·rename_i E
   have H:0 < l.length:=bh_.2 E;rw[bB_,xy2 n C f (l.drop n) (by rw[I_];omega),al_]
theorem fq1 (l:List It):(rows l).flatten=l:=xy2 20 o_ _ _ l_
theorem ky1 (n:Nat) (E:0 < n):∀(f:Nat) (l:List It),∀r∈cut n f l,r≠[]/\r.length<=n/\r.Sublist l
 |0,l=>by simp[cut]
 |f+1,l=>by
  unfold cut;split
  ·simp
  ·rename_i H
   intro r C
   rcases f_.1 C with rfl|C
   ·exact⟨by simp[H];omega,by simp;omega,cl_ _ _⟩
   ·obtain⟨h1,h2,h3⟩:=ky1 n E f _ r C
    exact⟨h1,h2,h3.trans (List.drop_sublist _ _)⟩
theorem sz1 (n:Nat) (C:0 < n):∀(f:Nat) (l:List It),(cut n f l).length *n<=l.length+n - 1
 |0,l=>by simp[cut]
 |f+1,l=>by
  unfold cut;split
  ·simp
  ·rename_i E
   have I:0 < l.length:=bh_.2 E;have:=sz1 n C f (l.drop n);rw[I_]at this;rw[q_,cv_]
   rcases ah_ l.length n with h|h
   ·have H:l.length - n=0:=o_
    rw[H,an_]at this;have:(cut n f (l.drop n)).length=0:=by
     have h1:l.drop n=[]:=aG_ o_;rw[h1]
     cases f<;>simp[cut]
    rw[this];omega
   ·omega
theorem zw1:∀(rs:List (List It)) (f:Nat) (a t:List UInt8),(∀r∈rs,may r=true/\r.length<=100/\∀y∈r,y.fit)->rs.length < f->
  (Fr.take (a++(blocks rs++t)) (a.length+(blocks rs).length)).1≠2\/(Fr.take (a++(blocks rs++t)) (a.length+(blocks rs).length)).2.2.2≠0->parse f (a++(blocks rs++t)) a.length=rs
 |[],f,a,t,_,E,C=>by
  obtain⟨f,rfl⟩:∃g,f=g+1:=⟨f - 1,by simp at E;omega⟩;simp only[blocks,List.flatMap_nil,C_,V_,bm_]at C ⊢;unfold parse;rw[if_neg];rintro⟨h1,h2,_⟩
  rcases C with h|h
  ·exact h h2
  ·exact h h1
 |r::rs,f,a,t,O,E,C=>by
  obtain⟨f,rfl⟩:∃g,f=g+1:=⟨f - 1,by simp at E;omega⟩;obtain⟨h1,h2,h3⟩:=O r i_;have H:∀y∈r,y.ok=true:=by
   simp only[may,G_,ab_]at h1;exact h1.2
  have a0:=It.bq1 r;have Q:a++(blocks (r::rs)++t)=a++(Fr.put 2 (It.bytes r)++(blocks rs++t)):=by simp[blocks]
  have U:a++(Fr.put 2 (It.bytes r)++(blocks rs++t))=(a++Fr.put 2 (It.bytes r))++(blocks rs++t):=by simp
  have I:=Fr.jv1 a 2 (It.bytes r) (blocks rs++t) o_ o_ o_;have J:=It.dy4 (l:=r) (fun y Z=>⟨H y Z,h3 y Z⟩) o_;unfold parse;rw[Q,I];simp only[J,true_and];rw[if_pos ⟨h2,h1⟩]
  congr 1
  have:=zw1 rs f (a++Fr.put 2 (It.bytes r)) t (fun q hq=>O q (e_ _ hq)) (by simp at E;omega) (by
   have e2:a.length+(blocks (r::rs)).length=(a++Fr.put 2 (It.bytes r)).length+(blocks rs).length:=by simp[blocks];omega
   rw[Q,e2,U]at C;exact C)
  rw[<-U,d_]at this;exact this
theorem wq3 {l:List It} (h:good l=true) (E:∀y∈l,y.fit):∀r∈rows l,may r=true/\r.length<=100/\∀y∈r,y.fit:=by
 intro r H;simp only[good,G_,decide_eq_true_eq,ab_]at h;obtain⟨h1,h2,h3⟩:=ky1 20 o_ _ _ r H;refine⟨?_,o_,fun y C=>E y (h3.subset C)⟩;simp only[may,G_,decide_eq_true_eq,ab_];exact⟨⟨h1,h.1.2.sublist h3⟩,fun y C=>h.2 y (h3.subset C)⟩
theorem my1:∀(p:Nat) (rs:List (List It)),(index p rs).length<=52 *rs.length
 |_,[]=>by simp[index]
 |p,r::rs=>by
  have h1:=my1 (p+(Fr.put 2 (It.bytes r)).length) rs;have h2:=Pn.jq p;have h3:=It.bq1 (r.take 1);have h4:(r.take 1).length<=1:=by rw[v_];omega
  simp only[index,d_,q_];omega
theorem iz4 {l:List It} (h:good l=true) (E:∀y∈l,y.fit):open_ (make l)=some (rows l):=by
 have O:l.length<=2000:=by simp only[good,G_,decide_eq_true_eq]at h;exact h.1.1
 have H:(rows l).length<=100:=by
  have:=sz1 20 o_ l.length l;unfold rows;omega
 have I:=my1 0 (rows l);have J:parse ((make l).length+1) (make l) 0=rows l:=by
  have e:make l=[] ++(blocks (rows l)++(Fr.put 3 (index 0 (rows l))++(Fr.put 4 (filt l)++Fr.put 5 (Pn.put (blocks (rows l)).length++(Pn.put (blocks (rows l)++Fr.put 3 (index 0 (rows l))).length++Pn.put l.length))))):=by
   simp[make]
  have C:(rows l).length < (make l).length+1:=by
   have:∀rs:List (List It),rs.length<=(blocks rs).length:=fun rs=>by
    induction rs with
    |nil=>simp
    |cons r rs Q=>simp only[blocks,S_,d_,q_,Fr.vk]at *;omega
   have h1:=this (rows l);have h2:(blocks (rows l)).length<=(make l).length:=by rw[e];simp
   omega
  generalize (make l).length+1=f at *;rw[e];refine zw1 (rows l) f [] _ (wq3 h E) C (.inl ?_);rw[C_,V_,an_];rw[Fr.jv1 (blocks (rows l)) 3 (index 0 (rows l)) _ o_ o_ o_];exact(by decide:(3:Nat)≠2)
 unfold open_;rw[J,fq1,if_pos ⟨h,rfl⟩]
end Tb
namespace Lg
def batch (l:List It):List UInt8:=Fr.put 1 (It.bytes l)
theorem lw2 (l:List It):(batch l).length<=22+32 *l.length:=by
 have:=It.bq1 l;rw[batch,Fr.vk];omega
end Lg
end
namespace Once
theorem disable (w:World):(callFunc 311 #[]).run prog w=.ok (.value (.tuple #[])) w:=run_call_mark0 func311 (by kernel_rfl) (by kernel_rfl) (by kernel_rfl) .disable (by kernel_rfl) w
theorem enable (w:World):(callFunc 313 #[]).run prog w=.ok (.value (.tuple #[])) w:=run_call_mark0 func313 (by kernel_rfl) (by kernel_rfl) (by kernel_rfl) .enable (by kernel_rfl) w
theorem acquire (a:Addr) (w:World):(callFunc 314 #[.pointer (some a)]).run prog w=.ok (.value (.tuple #[])) w:=run_call_marked func314 (by kernel_rfl) (by kernel_rfl) (by kernel_rfl) .acquire (by kernel_rfl) a w
theorem releaseMerge (a:Addr) (w:World):(callFunc 316 #[.pointer (some a)]).run prog w=.ok (.value (.tuple #[])) w:=run_call_marked func316 (by kernel_rfl) (by kernel_rfl) (by kernel_rfl) .releaseMerge (by kernel_rfl) a w
theorem store_deferred (a:Addr) (x:Value) (u:FrameMode) (w:World) (J:w.cell? a=some x) (O:w.frozen? a=false):
  CallsD prog 259 #[.pointer (some a),.bool true] u w fun e H w'=>H=u/\(e=.returned (.tuple #[])/\w'=w.drew.setCell a (.int .u32 1)):=by
 have C:w.drew.cell? a=some x:=by go_simp
 have E:w.drew.frozen? a=false:=by go_simp
 have I:=run_call_store (P:=prog) func284 (by kernel_rfl) (by kernel_rfl) (by kernel_rfl) (by kernel_rfl) (k:=.u32) (y:=1) C E;go_enter_d func259,ntmps259;go_wp2
 go_region_calls
 all_goals (go_end0;exact⟨rfl,rfl⟩)
theorem unlock_deferred (a:Addr) (u:FrameMode) (w:World) (E:w.cell? a=some (.int .i32 1)) (I:w.frozen? a=false):
  CallsD prog 258 #[.pointer (some a)] u w fun e J w'=>J=u/\(e=.returned (.tuple #[])/\w'=w.setCell a (.int .i32 0)):=by
 have hd:=disable;have O:=enable;have Q:=releaseMerge;have H:=run_call_add (P:=prog) func317 (by kernel_rfl) (by kernel_rfl) (by kernel_rfl) .i32 (by kernel_rfl) (y:=-1) (s:=0) E I (by simp[go_sem];rfl)
 first|have C:=run_convert_to_unsafe (P:=prog) (src:=375) (dst:=255) underlying375 underlying255 (by kernel_rfl) E|have C:=run_convert_to_unsafe (P:=prog) (src:=377) (dst:=255) underlying377 underlying255 (by kernel_rfl) E|have C:=run_convert_to_unsafe (P:=prog) (src:=362) (dst:=255) underlying362 underlying255 (by kernel_rfl) E|have C:=run_convert_to_unsafe (P:=prog) (src:=350) (dst:=255) underlying350 underlying255 (by kernel_rfl) E|have C:=run_convert_to_unsafe (P:=prog) (src:=418) (dst:=255) underlying418 underlying255 (by kernel_rfl) E|have C:=run_convert_to_unsafe (P:=prog) (src:=490) (dst:=255) underlying490 underlying255 (by kernel_rfl) E
 go_enter_d func258,ntmps258;go_wp2
 go_end0
 go_wp2
 go_end0
 exact⟨rfl,rfl⟩
theorem lock_free (a:Addr) (w:World) (H:w.cell? a=some (.int .i32 0)) (J:w.frozen? a=false):
  Calls prog 257 #[.pointer (some a)] w fun e w'=>e=.returned (.tuple #[])/\w'=w.setCell a (.int .i32 1):=by
 have hd:=disable;have O:=enable;have Q:=acquire;have I:=run_call_cas_hit (P:=prog) func312 (by kernel_rfl) (by kernel_rfl) (by kernel_rfl) .i32 (by kernel_rfl) (y:=1) H J;have C:(w.setCell a (.int .i32 1)).cell? a=some (.int .i32 1):=bt_ w a _ H
 first|have E:=run_convert_to_unsafe (P:=prog) (src:=375) (dst:=255) underlying375 underlying255 (by kernel_rfl) C|have E:=run_convert_to_unsafe (P:=prog) (src:=377) (dst:=255) underlying377 underlying255 (by kernel_rfl) C|have E:=run_convert_to_unsafe (P:=prog) (src:=362) (dst:=255) underlying362 underlying255 (by kernel_rfl) C|have E:=run_convert_to_unsafe (P:=prog) (src:=350) (dst:=255) underlying350 underlying255 (by kernel_rfl) C|have E:=run_convert_to_unsafe (P:=prog) (src:=418) (dst:=255) underlying418 underlying255 (by kernel_rfl) C|have E:=run_convert_to_unsafe (P:=prog) (src:=490) (dst:=255) underlying490 underlying255 (by kernel_rfl) C
 go_enter func257,ntmps257;go_wp2
 first|go_end0|(simp only[Exit.inBlock,Exit.then];refine bodyPost_ret (results_none rfl _ _ _) rfl ?_)|refine bodyPost_ret (results_none rfl _ _ _) rfl ?_
 go_wp2
 go_end0
 exact⟨rfl,rfl⟩
end Once
namespace Once
theorem slow_any (b:Nat) (pl:Addr) (C:¬b=pl.block) (H:Value) (w:World) (O:w.cell? pl=some (.pointer (some ⟨b,0,none⟩)))
  (I:w.cell? ⟨b,9,none⟩=some (.int .u32 0)) (h1:w.cell? ⟨b,10,none⟩=some (.int .i32 0)) (h3:w.cell? ⟨b,12,none⟩=some H)
  (f0:w.frozen? ⟨b,9,none⟩=false) (f1:w.frozen? ⟨b,10,none⟩=false) (f3:w.frozen? ⟨b,12,none⟩=false):
  Calls prog 214 #[.pointer (some ⟨b,9,none⟩),.func (.func 250) #[] #[.pointer (some pl)]] w fun e w'=>e=.returned (.tuple #[])/\
   w'=(((w.setCell ⟨b,10,none⟩ (.int .i32 1)).setCell ⟨b,12,none⟩ (.bool true)).drew.setCell ⟨b,9,none⟩ (.int .u32 1)).setCell ⟨b,10,none⟩ (.int .i32 0):=by
 have hl:=run_call_load (P:=prog) func256 (by kernel_rfl) (by kernel_rfl) (by kernel_rfl) .u32 (by kernel_rfl) (w:=w.setCell ⟨b,10,none⟩ (.int .i32 1)) (a:=⟨b,9,none⟩) (x:=0) ((Y_ _ ⟨b,10,none⟩ ⟨b,9,none⟩ _ s_).trans I);have Q:(w.setCell ⟨b,10,none⟩ (.int .i32 1)).cell? pl=some (.pointer (some ⟨b,0,none⟩)):=(Y_ _ ⟨b,10,none⟩ pl _ (fun h=>C (by rw[<-h]))).trans O;have U:(w.setCell ⟨b,10,none⟩ (.int .i32 1)).cell? ⟨b,12,none⟩=some H:=(Y_ _ ⟨b,10,none⟩ ⟨b,12,none⟩ _ s_).trans h3;have J:∀(x:Bool) (w:World),(Op.unary .not (.bool x)).run prog w=.ok (.bool (!x)) w:=fun _ _=>rfl;go_enter_defers func214,ntmps214;go_wp2_with (go_at_call 257;refine(lock_free ⟨b,10,none⟩ _ (by go_simp) (by go_simp)).mono ?_;rintro e w' ⟨rfl,rfl⟩);go_wp2
 go_end0
 go_wp2;refine leaves_cons (f:=259) (args:=#[.pointer (some ⟨b,9,none⟩),.bool true]) s_ (by simp[go_sem]) ?_;refine(store_deferred ⟨b,9,none⟩ (.int .u32 0) .returning _ ?_ (by simp[f0])).mono ?_
 ·exact(Y_ _ ⟨b,12,none⟩ ⟨b,9,none⟩ _ s_).trans ((Y_ _ ⟨b,10,none⟩ ⟨b,9,none⟩ _ s_).trans I)
 rintro e Z E ⟨rfl,rfl,rfl⟩;refine leaves_cons (f:=258) (args:=#[.pointer (some ⟨b,10,none⟩)]) (by simp[settle]) (by simp[go_sem]) ?_;refine(unlock_deferred ⟨b,10,none⟩ _ _ ?_ (by simp[f1])).mono ?_
 ·refine(Y_ _ ⟨b,9,none⟩ ⟨b,10,none⟩ _ s_).trans ?_
  rw[cq_];exact(Y_ _ ⟨b,12,none⟩ ⟨b,10,none⟩ _ s_).trans (bt_ w _ _ h1)
 rintro e Z E ⟨rfl,rfl,rfl⟩;simp[Leaves,settle,results,results214]
theorem do_first (b:Nat) (pl:Addr) (C:¬b=pl.block) (E:Value) (w:World) (J:w.cell? pl=some (.pointer (some ⟨b,0,none⟩)))
  (H:w.cell? ⟨b,9,none⟩=some (.int .u32 0)) (h1:w.cell? ⟨b,10,none⟩=some (.int .i32 0)) (h3:w.cell? ⟨b,12,none⟩=some E)
  (f0:w.frozen? ⟨b,9,none⟩=false) (f1:w.frozen? ⟨b,10,none⟩=false) (f3:w.frozen? ⟨b,12,none⟩=false):
  Calls prog 152 #[.pointer (some ⟨b,9,none⟩),.func (.func 250) #[] #[.pointer (some pl)]] w fun e w'=>e=.returned (.tuple #[])/\w'=((((w.setCell ⟨b,10,none⟩ (.int .i32 1)).setCell ⟨b,12,none⟩ (.bool true)).drew.setCell ⟨b,9,none⟩ (.int .u32 1)).setCell ⟨b,10,none⟩ (.int .i32 0)):=by
 have O:=run_call_load (P:=prog) func256 (by kernel_rfl) (by kernel_rfl) (by kernel_rfl) .u32 (by kernel_rfl) H;have I:∀(x:Bool) (w:World),(Op.unary .not (.bool x)).run prog w=.ok (.bool (!x)) w:=fun _ _=>rfl;go_enter func152,ntmps152;go_wp2_with (first|(go_at_call 214;refine(slow_any b pl C E _ J H h1 h3 f0 f1 f3).mono ?_;rintro e w' ⟨rfl,rfl⟩)|(go_at_call 213;go_in))
 go_end0
 exact⟨rfl,rfl⟩
theorem do_done (a:Addr) (d:Int) (hd:¬d=0) (fv:Value) (w:World) (E:w.cell? a=some (.int .u32 d)):
  Calls prog 152 #[.pointer (some a),fv] w fun e w'=>e=.returned (.tuple #[])/\w'=w:=by
 have I:=run_call_load (P:=prog) func256 (by kernel_rfl) (by kernel_rfl) (by kernel_rfl) .u32 (by kernel_rfl) E;have C:∀(x:Bool) (w:World),(Op.unary .not (.bool x)).run prog w=.ok (.bool (!x)) w:=fun _ _=>rfl;have H:(d !=0)=true:=by simp[hd]
 go_enter func152,ntmps152;go_wp2
 go_end0
 exact⟨rfl,rfl⟩
end Once
theorem sq2 (g j:Nat) (x:Int) (w:World) (C:w.cell? ⟨g,j,none⟩=some (.int .i64 x)):
  Calls prog 41 #[.pointer (some ⟨g,j,none⟩)] w fun e w'=>e=.returned (.int .i64 x)/\w'=w:=by
 have E:=run_call_load (P:=prog) func104 (by kernel_rfl) (by kernel_rfl) (by kernel_rfl) .i64 (by kernel_rfl) C;go_enter func41,ntmps41;go_wp2;go_ret;exact⟨rfl,rfl⟩
theorem fq2 (g j:Nat) (x y:Int) (w:World) (C:w.cell? ⟨g,j,none⟩=some (.int .i64 x)) (E:w.frozen? ⟨g,j,none⟩=false):
  Calls prog 119 #[.pointer (some ⟨g,j,none⟩),.int .i64 y] w fun e w'=>e=.returned (.tuple #[])/\w'=w.setCell ⟨g,j,none⟩ (.int .i64 y):=by
 have H:=run_call_store (P:=prog) func180 (by kernel_rfl) (by kernel_rfl) (by kernel_rfl) (by kernel_rfl) (k:=.i64) (y:=y) C E;go_enter func119,ntmps119;go_wp2;exact bodyPost_end (v:=.tuple #[]) (by simp[results,go_sem]) rfl ⟨rfl,rfl⟩
theorem jx4 (g j:Nat) (x:Int) (w:World) (J:0<=x) (h1:x<=1000000000) (H:w.cell? ⟨g,j,none⟩=some (.int .i64 x)) (I:w.frozen? ⟨g,j,none⟩=false):
  Calls prog 137 #[.pointer (some ⟨g,j,none⟩),.int .i64 1] w fun e w'=>e=.returned (.int .i64 (x+1))/\w'=w.setCell ⟨g,j,none⟩ (.int .i64 (x+1)):=by
 have C:IntKind.i64.wrap (x+1)=x+1:=D_ _ o_;have E:=run_call_add (P:=prog) func204 (by kernel_rfl) (by kernel_rfl) (by kernel_rfl) .i64 (by kernel_rfl) (y:=1) (s:=x+1) H I (by simp[go_sem,C]);go_enter func137,ntmps137;go_wp2;go_ret;exact⟨rfl,rfl⟩
namespace Sonce
open Once
theorem slow_any (b:Nat) (pl:Addr) (C:¬b=pl.block) (H:Value) (w:World) (O:w.cell? pl=some (.pointer (some ⟨b,0,none⟩)))
  (I:w.cell? ⟨b,7,none⟩=some (.int .u32 0)) (h1:w.cell? ⟨b,8,none⟩=some (.int .i32 0)) (h3:w.cell? ⟨b,10,none⟩=some H)
  (f0:w.frozen? ⟨b,7,none⟩=false) (f1:w.frozen? ⟨b,8,none⟩=false) (f3:w.frozen? ⟨b,10,none⟩=false):
  Calls prog 214 #[.pointer (some ⟨b,7,none⟩),.func (.func 153) #[] #[.pointer (some pl)]] w fun e w'=>e=.returned (.tuple #[])/\
   w'=(((w.setCell ⟨b,8,none⟩ (.int .i32 1)).setCell ⟨b,10,none⟩ (.bool true)).drew.setCell ⟨b,7,none⟩ (.int .u32 1)).setCell ⟨b,8,none⟩ (.int .i32 0):=by
 have hl:=run_call_load (P:=prog) func256 (by kernel_rfl) (by kernel_rfl) (by kernel_rfl) .u32 (by kernel_rfl) (w:=w.setCell ⟨b,8,none⟩ (.int .i32 1)) (a:=⟨b,7,none⟩) (x:=0) ((Y_ _ ⟨b,8,none⟩ ⟨b,7,none⟩ _ s_).trans I);have Q:(w.setCell ⟨b,8,none⟩ (.int .i32 1)).cell? pl=some (.pointer (some ⟨b,0,none⟩)):=(Y_ _ ⟨b,8,none⟩ pl _ (fun h=>C (by rw[<-h]))).trans O;have U:(w.setCell ⟨b,8,none⟩ (.int .i32 1)).cell? ⟨b,10,none⟩=some H:=(Y_ _ ⟨b,8,none⟩ ⟨b,10,none⟩ _ s_).trans h3;have J:∀(x:Bool) (w:World),(Op.unary .not (.bool x)).run prog w=.ok (.bool (!x)) w:=fun _ _=>rfl;go_enter_defers func214,ntmps214;go_wp2_with (go_at_call 257;refine(lock_free ⟨b,8,none⟩ _ (by go_simp) (by go_simp)).mono ?_;rintro e w' ⟨rfl,rfl⟩);go_wp2
 go_end0
 go_wp2;refine leaves_cons (f:=259) (args:=#[.pointer (some ⟨b,7,none⟩),.bool true]) s_ (by simp[go_sem]) ?_;refine(store_deferred ⟨b,7,none⟩ (.int .u32 0) .returning _ ?_ (by simp[f0])).mono ?_
 ·exact(Y_ _ ⟨b,10,none⟩ ⟨b,7,none⟩ _ s_).trans ((Y_ _ ⟨b,8,none⟩ ⟨b,7,none⟩ _ s_).trans I)
 rintro e Z E ⟨rfl,rfl,rfl⟩;refine leaves_cons (f:=258) (args:=#[.pointer (some ⟨b,8,none⟩)]) (by simp[settle]) (by simp[go_sem]) ?_;refine(unlock_deferred ⟨b,8,none⟩ _ _ ?_ (by simp[f1])).mono ?_
 ·refine(Y_ _ ⟨b,7,none⟩ ⟨b,8,none⟩ _ s_).trans ?_
  rw[cq_];exact(Y_ _ ⟨b,10,none⟩ ⟨b,8,none⟩ _ s_).trans (bt_ w _ _ h1)
 rintro e Z E ⟨rfl,rfl,rfl⟩;simp[Leaves,settle,results,results214]
theorem do_first (b:Nat) (pl:Addr) (C:¬b=pl.block) (E:Value) (w:World) (J:w.cell? pl=some (.pointer (some ⟨b,0,none⟩)))
  (H:w.cell? ⟨b,7,none⟩=some (.int .u32 0)) (h1:w.cell? ⟨b,8,none⟩=some (.int .i32 0)) (h3:w.cell? ⟨b,10,none⟩=some E)
  (f0:w.frozen? ⟨b,7,none⟩=false) (f1:w.frozen? ⟨b,8,none⟩=false) (f3:w.frozen? ⟨b,10,none⟩=false):
  Calls prog 152 #[.pointer (some ⟨b,7,none⟩),.func (.func 153) #[] #[.pointer (some pl)]] w fun e w'=>e=.returned (.tuple #[])/\w'=((((w.setCell ⟨b,8,none⟩ (.int .i32 1)).setCell ⟨b,10,none⟩ (.bool true)).drew.setCell ⟨b,7,none⟩ (.int .u32 1)).setCell ⟨b,8,none⟩ (.int .i32 0)):=by
 have O:=run_call_load (P:=prog) func256 (by kernel_rfl) (by kernel_rfl) (by kernel_rfl) .u32 (by kernel_rfl) H;have I:∀(x:Bool) (w:World),(Op.unary .not (.bool x)).run prog w=.ok (.bool (!x)) w:=fun _ _=>rfl;go_enter func152,ntmps152;go_wp2_with (first|(go_at_call 214;refine(slow_any b pl C E _ J H h1 h3 f0 f1 f3).mono ?_;rintro e w' ⟨rfl,rfl⟩)|(go_at_call 213;go_in))
 go_end0
 exact⟨rfl,rfl⟩
end Sonce
structure Tb.Full (rs:List (List It)):Prop where
 ne:rs≠[]
 all:∀r∈rs,r≠[]
def Tb.first (rs:List (List It)):It:=rs.flatten.head?.getD ⟨0,0,0,0,0⟩
def Tb.last (rs:List (List It)):It:=rs.flatten.getLast?.getD ⟨0,0,0,0,0⟩
theorem Tb.Full.fst {rs:List (List It)} (h:Tb.Full rs):∃(C:0 < rs.length) (h1:0 < rs[0].length),rs[0][0]=Tb.first rs:=by
 obtain⟨h1,h2⟩:=h
 cases rs with
 |nil=>exact absurd rfl h1
 |cons r rest=>
  cases r with
  |nil=>exact absurd rfl (h2 [] i_)
  |cons x r=>exact⟨by simp,by simp,rfl⟩
theorem Tb.Full.lst {rs:List (List It)} (h:Tb.Full rs):∃(m j:Nat) (C:m < rs.length) (h1:j < rs[m].length),rs.length=m+1/\rs[m].length=j+1/\rs[m][j]=Tb.last rs:=by
 obtain⟨h1,h2⟩:=h
 rcases List.eq_nil_or_concat rs with rfl|⟨L,r,rfl⟩
 ·exact absurd rfl h1
 ·rw[List.concat_eq_append]at h2 ⊢
  rcases List.eq_nil_or_concat r with rfl|⟨q,x,rfl⟩
  ·exact absurd rfl (h2 [] s_)
  ·exact⟨L.length,q.length,by simp,by simp,by simp,by simp,by simp[Tb.last]⟩
theorem Tb.Full.cnt {rs:List (List It)} (h:Tb.Full rs):0 < rs.flatten.length:=by
 obtain⟨C,h1,_⟩:=h.fst;rw[bh_];intro e;rw[List.flatten_eq_nil_iff]at e;exact h.all _ (u_ C) (e _ (u_ C))
theorem Tb.Full.mem {rs:List (List It)} (h:Tb.Full rs):Tb.first rs∈rs.flatten/\Tb.last rs∈rs.flatten:=by
 obtain⟨C,h1,e⟩:=h.fst;obtain⟨m,j,h2,h3,_,_,f⟩:=h.lst;exact⟨List.mem_flatten.2 ⟨_,u_ C,by rw[<-e];exact u_ h1⟩,List.mem_flatten.2 ⟨_,u_ h2,by rw[<-f];exact u_ h3⟩⟩
theorem Tb.Full.rows {l:List It} (h:l≠[]):Tb.Full (Tb.rows l):=by
 refine⟨fun e=>?_,fun r C=>(Tb.ky1 20 o_ _ _ r C).1⟩;have:=Tb.fq1 l;rw[e]at this;exact h this.symm
theorem Tb.short:∀{rs:List (List It)},(∀r∈rs,r≠[])->rs.length<=rs.flatten.length
 |[],_=>y_ _
 |a::L,h=>by
  have h1:=bh_.2 (h a i_);have h2:=Tb.short fun r C=>h r (e_ _ C);rw[bB_,d_,q_];omega
theorem Tb.Full.short {rs:List (List It)} (h:Tb.Full rs):rs.length<=rs.flatten.length:=Tb.short h.all
end Go.Proofs.YtkdbagdiplpcfaaGreatDoor
