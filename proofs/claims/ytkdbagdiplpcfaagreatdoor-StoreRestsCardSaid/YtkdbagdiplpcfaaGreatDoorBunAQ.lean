/- Some of the texts. No conditions. -/
import Derived.Test.YtkdbagdiplpcfaaGreatDoorBunAM
import Derived.Test.YtkdbagdiplpcfaaGreatDoorBunAK
import Derived.Test.YtkdbagdiplpcfaaGreatDoorBunAL

set_option linter.unusedSimpArgs false
set_option linter.unusedVariables false
set_option maxRecDepth 100000
set_option maxHeartbeats 16000000
namespace Go.Proofs.YtkdbagdiplpcfaaGreatDoor
open Go.Proofs.Tryz Go Go.RowKit Go.Lib Go.Shelf
theorem or_bit (c:UInt8) {j:Nat} (hj:j < 8):bits .or .u8 (c.toNat:Int) ((2 ^ j:Nat):Int)=((c|||UInt8.ofNat (2 ^ j)).toNat:Int):=by
 have key:∀(y:Fin 256) (j:Fin 8),bits .or .u8 ((y.val:Nat):Int) ((2 ^ j.val:Nat):Int)=(((UInt8.ofNat y.val)|||UInt8.ofNat (2 ^ j.val)).toNat:Int):=by decide+kernel
 have:=key ⟨c.toNat,c.toNat_lt⟩ ⟨j,hj⟩;simpa using this
theorem lj3 (b:List UInt8) (i:Nat):(Tb.nv1 b i).length=b.length:=by simp[Tb.nv1]
theorem rk5 (c:UInt8) {j:Nat} (hj:j < 8):bits .or .u8 (c.toNat:Int) (IntKind.u8.wrap (2 ^ j))=((c|||UInt8.ofNat (2 ^ j)).toNat:Int):=by
 rw[<-or_bit c hj]
 congr 1
 have e:j=0\/j=1\/j=2\/j=3\/j=4\/j=5\/j=6\/j=7:=o_
 rcases e with rfl|rfl|rfl|rfl|rfl|rfl|rfl|rfl<;>decide
theorem BlAt.set {w:World} {f g:Nat} {B:List UInt8} {x q j:Nat} {bx:UInt8} (h:BlAt w f g B) (E:q=x / 8) (hj:j=x % 8) (H:B[q]?=some bx):
  BlAt (w.drew.setCell ⟨g,q,none⟩ (.int .u8 ((bx|||UInt8.ofNat (2 ^ j)).toNat:Int))) f g (Tb.nv1 B x)/\Chg [g] w (w.drew.setCell ⟨g,q,none⟩ (.int .u8 ((bx|||UInt8.ofNat (2 ^ j)).toNat:Int))):=by
 have C:=xw w.drew ⟨g,q,none⟩ (.int .u8 ((bx|||UInt8.ofNat (2 ^ j)).toNat:Int));refine⟨⟨?_,?_,h.ne⟩,((Chg.refl [g] w).drew).trans C (fun g I=>.inl I)⟩
 ·rw[lj3]
  exact h.box.drew.chg C (by simpa using h.ne)
 ·have:=h.bits.drew.store q (.int .u8 ((bx|||UInt8.ofNat (2 ^ j)).toNat:Int))
  have e:(bts B).set q (.int .u8 ((bx|||UInt8.ofNat (2 ^ j)).toNat:Int))=bts (Tb.nv1 B x):=by
   unfold Tb.nv1 bts;rw[List.map_set,<-E,<-hj,B_,H];rfl
  rw[<-e];exact this
theorem av4 (b:List UInt8) (i:Nat):(Tb.nv1 b i).length=b.length:=by simp[Tb.nv1]
theorem kv2 (l:List Nat):∀b:List UInt8,(l.foldl Tb.nv1 b).length=b.length:=by
 induction l with
 |nil=>exact fun _=>rfl
 |cons a l C=>exact fun b=>by rw[aT_,C,av4]
theorem bw4 (b key:List UInt8):(Tb.addKey b key).length=b.length:=kv2 _ _
theorem nx4 (f g:Nat) (b:List UInt8) (K:Option Addr) (m c:Nat) (key:List UInt8) (w:World) (h:BlAt w f g b) (b0:0 < b.length) (b1:b.length<=3000) (hm:m<=1000) (hr:Row w.heap.size w K m 1 (bts key)):
  Calls prog 254 #[.pointer (some ⟨f,0,none⟩),.slice K m c] w fun e w'=>e=.returned (.tuple #[])/\BlAt w' f g (Tb.addKey b key)/\Chg [g] w w':=by
 have hp:=iy3 f g b K m c key w h b0 b1 hm hr;obtain⟨P,hP⟩:=n_ (Tb.places b.length key);have e6:P.length=7:=by rw[hP];simp[Tb.places]
 have a2:∀x∈P,x < b.length *8:=fun x hx=>by
  rw[hP]at hx;simp only[Tb.places,W_]at hx;obtain⟨i,_,rfl⟩:=hx;exact bP_ _ o_
 unfold Tb.addKey;rw[<-hP]at hp ⊢;have e7:=h.bits.lt;have HP:=H_ hp;have H:=H_ h;have b6:=H_ a2;clear hp hP hr h a2;go_enter func254,ntmps254;go_wp2_with fail;refine HP.out.mono ?_;rintro e w1 ⟨A1,c1,rfl,O,Q⟩;obtain⟨A9,c9,hv,f5,f6,I⟩:=gz O;injection hv with e1 e2 e3;subst e1 e3;have hrow:Row w1.heap.size w1 A1 7 1 (i64v P):=Row.own O;have HR:=H_ hrow;have HL:=H_ I;have H1:=H_ (H.out.below Q);have b8:=H_ Q;clear O hrow I Q HP;go_wp2_with fail
 go_loopw [10] (fun i wr=>∃k:Nat,k<=7/\i=.int .i64 (k:Int)/\Hid (BlAt wr f g ((P.take k).foldl Tb.nv1 b)/\Chg [g] w1 wr)) (fun i _=>7 - (intOf i).toNat)
 case atStart=>exact⟨0,o_,rfl,H_ ⟨H1.out,Chg.refl _ _⟩⟩
 case round=>
  obtain⟨k,g1,rfl,HK⟩:=hrel
  by_cases hk:k < 7
  ·have b9:(k:Int) < 7:=o_
   have g2:IntKind.i64.wrap (k:Int)=(k:Int):=D_ _ o_;have b':=HK.out.2.row HR.out l_ (fun a ha hm=>by
    have:=(HL.out a ha).1;have h2:=a_.1 hm;omega)
   have d0:P[k]?=some P[k]:=h_ o_;obtain⟨a,ha,g4,hc⟩:=kx1 b' (show (i64v P)[k]?=some (.int .i64 ((P[k]:Nat):Int)) by unfold i64v;rw[br_,d0];rfl);have g5:=b6.out _ (u_ (show k < P.length by omega));have a5:P.take (k+1)=P.take k++[P[k]]:=r_ o_;generalize P[k]=x at *;obtain⟨B,hB⟩:=n_ ((P.take k).foldl Tb.nv1 b);have U:B.length=b.length:=by rw[hB];exact kv2 _ _
   have C:=HK.out.1;rw[<-hB]at C;subst ha;have c1:=C.box.c1;obtain⟨q,hq⟩:=n_ (x / 8);obtain⟨j,hj⟩:=n_ (x % 8);have Z:q < B.length:=o_
   have cg:=C.bits.cell q;obtain⟨bx,a0⟩:∃bx,B[q]?=some bx:=⟨_,h_ Z⟩;rw[iv4,a0]at cg;have zg:=C.bits.free q;rw[U]at c1;have g7:(x:Int) / 8=(q:Int):=o_
   have d':(q:Int) < (b.length:Int):=o_
   have e0:q < b.length:=o_
   have d1:(x:Int) % 8=(j:Int):=o_
   have d2:(x:Int).tmod 8=(j:Int):=by rw[ce_ o_];omega
   have d3:j < 8:=o_
   have g8:IntKind.i64.wrap (q:Int)=(q:Int):=D_ _ o_;have g9:IntKind.i64.wrap (j:Int)=(j:Int):=D_ _ o_;have e4:(j:Int) < 8:=o_
   have a6:=rk5 bx d3;have a7:=H_ (c_ hq hj);have d4:=H_ a6;clear a6 hq hj;have HB:=H_ (c_ hB (c_ U (c_ a0 Z)));have d5:=H_ C;have HT:=H_ a5;clear hB U a0 Z C a5;have d1:(x:Int) % 8=((x % 8:Nat):Int):=o_
   have d2:(x:Int).tmod 8=((x % 8:Nat):Int):=by rw[ce_ o_];omega
   go_wp2_with fail
   go_still_tail 13,(by kernel_rfl)
   change wpList _ _ _ _ _ (World.drew wr);have a1:=d5.out.set a7.out.1 a7.out.2 HB.out.2.2.1;rw[<-d4.out]at a1;have a8:=H_ a1;clear a1;go_wp2;go_roundw
   case rel=>exact⟨k+1,o_,by go_num,H_ ⟨by rw[HT.out,a6_,<-HB.out.1];exact a8.out.1,HK.out.2.trans a8.out.2 (fun g hg=>.inl hg)⟩⟩
   case measure=>simp[intOf];omega
  ·have b9:((k:Int) < 7)=False:=eq_false o_
   have J:P.take k=P:=g_ o_;have E:=HK.out;rw[J]at E;have HF:=H_ (c_ E.1 ((Chg.of_below b8.out [g]).trans E.2 (fun g hg=>.inl hg)));clear E HK J;go_wp2;exact bodyPost_end (v:=.tuple #[]) (by simp[results,go_sem]) rfl ⟨rfl,HF.out⟩
theorem dk6 {w:World} {f g:Nat} {b:List UInt8} (h:BlAt w f g b):Row w.heap.size w (some ⟨g,0,none⟩) b.length 1 (bts b):=by
 refine⟨by rw[rq,bb_],fun j hj=>⟨_,rfl,h.bits.lt,?_⟩⟩;rw[show ((⟨g,0,none⟩:Addr).add j)=⟨g,j,none⟩ by rw[Addr.add_lit,an_],h.bits.cell];exact h_ hj
theorem BlAt.app {w w':World} {f g:Nat} {b:List UInt8} {r:Option Nat} (h:BlAt w f g b) (C:w.grownBy w' r) (E:some f≠r/\some g≠r):BlAt w' f g b:=⟨h.box.uq1 C E.1,h.bits.uq1 C E.2,h.ne⟩
theorem yk5 {w C E:World} {f g n base:Nat} {b:List UInt8} {v:Value} {xs:List Value} {e:TypeId} (I:E.ownsRow base e 1 v n xs) (O:Below C.heap.size C E) (h:BlAt w f g b) (Q:w.heap.size<=base:=by omega):some f≠v.ownBlock/\some g≠v.ownBlock:=by
 have h1:=h.box.lt;have h2:=h.bits.lt
 rcases I.2 with ⟨rfl,_⟩|⟨H,cap,cur,rfl,J,_⟩
 ·exact⟨(by intro e;cases e),(by intro e;cases e)⟩
 ·refine⟨fun e=>?_,fun e=>?_⟩
  ·have e:f=H:=ai_ e
   omega
  ·have e:g=H:=ai_ e
   omega
def blb (b:List UInt8):List UInt8:=Pn.put 7++(Pn.put b.length++b)
theorem kz6 {P S a oi v} (h:Hv P S a oi v:=by intro w C;(have c0:=C.box.c0;have c1:=C.box.c1);go_simp;try (with_reducible rfl)):Hv P S a oi v:=h
theorem nz3 (f g:Nat) (b:List UInt8) (w:World) (h:BlAt w f g b) (b7:b.length<=3000):
  Calls prog 211 #[.pointer (some ⟨f,0,none⟩)] w fun e w'=>∃A' M c',e=.returned (.slice A' M c')/\w'.ownsRow w.heap.size 5 1 (.slice A' M c') M (bts (blb b))/\M<=c'/\c'<=maxLen/\Below w.heap.size w w':=by
 obtain⟨i0,a4,a5,a6,a7⟩:=info_parts fj1;have J:=put_any none 0 0 [] 7 (by decide) w.drew o_ Row.nil_;simp only[an_,C_]at J;have b9:∀w,(convert 3 27 (.int .i64 (b.length:Int))).run prog w=.ok (.int .u64 (b.length:Int)) w:=by
  intro w;have:(b.length:Int) % 18446744073709551616=(b.length:Int):=o_
  simp[go_sem,convert,IntKind.wrap_u64,this]
 have l7:(Pn.put 7).length=1:=by decide
 rw[l7,show ((7:Nat):Int)=IntKind.u64.wrap 7 from by decide]at J;have b':=Pn.jq b.length;have a8:=H_ J;have H:=H_ h;clear J h l7;go_enter func211,ntmps211;go_wp2_with fail;refine wp_region_held_drew (S:=fun w'=>BlAt w' f g b) rfl (H.out.below (ak b0_)) (fun C=>?_);refine w_v 0 C ?_ (k:=kz6);go_simp;refine w_v 1 C ?_ (k:=kz6);go_simp;refine w_v 2 C ?_ (k:=kz6);go_simp;refine w_v 3 C ?_ (k:=kz6);go_simp;refine w_v 4 C ?_ (k:=kz6);go_simp;refine w_v 6 C ?_ (k:=kz6);go_simp;refine w_v 7 C ?_ (k:=kz6);go_simp;refine w_v 8 C ?_ (k:=kz6);go_simp;refine w_v 9 C ?_ (k:=kz6);go_simp;refine w_v 10 C ?_ (k:=kz6);go_simp;refine w_v 11 C ?_ (k:=kz6);go_simp;refine w_v 13 C ?_ (k:=kz6);go_simp;refine w_v 14 C ?_ (k:=kz6);go_simp;refine w_v 15 C ?_ (k:=kz6);go_simp;refine w_v 16 C ?_ (k:=kz6);go_simp;refine w_r 5 fun K U=>?_;go_simp
 refine m_ a8 ?_
 (rintro e w1 ⟨A1,c1,rfl,a9,d1,d2,a'⟩;have E:=(ak (Below.refl w.heap.size w)).trans a';have b0:=put_any A1 1 c1 (Pn.put 7) b.length o_ w1 o_ (Row.own a9))
 go_simp;refine U.out _ _ (H.out.below E) ?_;clear C U K;intro C;go_simp;refine w_r 12 fun K U=>?_;go_simp
 with_reducible refine b0.mono ?_
 (rintro e w2 ⟨A2,c2,rfl,b1,d4,d5,a0⟩;have I:=E.trans (a0.mono E.size);have O:=own_base b1 E.size;have Q:=H.out.below I;have a1:=dk6 Q)
 go_simp;refine U.out _ _ Q ?_;clear C U K;intro C;go_simp;refine w_r 17 fun K U=>?_;refine zz2 rfl (.tmp 15) (.tmp 19) _ rfl w.heap.size 5 i0 _ 1 1 underlying150 a4 a5 a6 a7 rfl o_ I.size (.slice A2 (1+(Pn.put b.length).length) c2) (1+(Pn.put b.length).length) _ rfl O w2.heap.size _ b.length b.length (bts b) rfl a1 (av1 _) (1+(Pn.put b.length).length+b.length) (bts (blb b)) rfl (by simp[bts,blb]) (by unfold maxLen;omega) o_ ?_;intro A3 c3 w3 z1 z2 z3 z4 z5;have Z:=lx2 I O z2 I.size;refine U.out _ _ (BlAt.app Q z2 (yk5 O a0 H.out)) ?_;clear C U K;intro C;go_simp;refine w_v 18 C ?_ (k:=kz6);go_simp;refine w_d ?_;clear C;have HF:=H_ (c_ z1 (c_ z3 (c_ z4 Z)));clear z1 z2 z5 Z O Q a1;go_wp2;go_ret;exact⟨A3,_,c3,rfl,HF.out⟩
theorem xv3 (l:List It):∀b:List UInt8,(l.foldl (fun b a=>Tb.addKey b a.key) b).length=b.length:=by
 induction l with
 |nil=>exact fun _=>rfl
 |cons a l C=>exact fun b=>by rw[aT_,C,bw4]
theorem jz3 (L:Option Addr) (m d:Nat) (l:List It) (w:World) (hm:m<=2000) (hq:Row w.heap.size w L m 5 (itc l)) (hk:∀x∈l,x.ok=true):
  Calls prog 210 #[.slice L m d] w fun e w'=>∃f g,e=.returned (.pointer (some ⟨f,0,none⟩))/\BlAt w' f g (Tb.bits l)/\w.heap.size<=f/\w.heap.size<=g/\Below w.heap.size w w':=by
 have b8:=hq.qj;have Q:=pw4 m w hm;obtain⟨I,H⟩:=n_ (List.replicate (Tb.mz2 m) (0:UInt8));have a0:0 < I.length/\I.length<=3000:=by rw[H,b6_];unfold Tb.mz2;omega
 have a1:Tb.bits l=l.foldl (fun b a=>Tb.addKey b a.key) I:=by unfold Tb.bits;rw[b8,H]
 rw[<-H]at Q;rw[a1];have a2:=H_ Q;have HK:=H_ hk;clear Q hk H a1;go_enter func210,ntmps210;go_wp2_with fail;refine a2.out.mono ?_;rintro e w1 ⟨f,g,rfl,h1,hf,hg,E⟩;have HH:=H_ (c_ h1 (c_ hf (c_ hg E)));clear h1 hf hg E a2;go_wp2_with fail
 go_loopw [15] (fun i wr=>∃k:Nat,k<=m/\i=.int .i64 (k:Int)/\Hid (BlAt wr f g ((l.take k).foldl (fun b a=>Tb.addKey b a.key) I)/\Below w.heap.size w wr)) (fun i _=>m - (intOf i).toNat)
 case atStart=>exact⟨0,o_,rfl,H_ ⟨HH.out.1,HH.out.2.2.2⟩⟩
 case round=>
  obtain⟨k,e4,rfl,HB⟩:=hrel
  by_cases b9:k < m
  ·obtain⟨p,hl,rfl,e5,d0,d1,d2,d3,d4⟩:=(hq.below HB.out.2).it b9
   have b':(k:Int) < (m:Int):=o_
   have e6:IntKind.i64.wrap (k:Int)=(k:Int):=D_ _ o_;have c9:=HK.out _ (u_ hl);have a5:l.take (k+1)=l.take k++[l[k]]:=r_ hl;generalize l[k]=x at *;obtain⟨B,hB⟩:=n_ ((l.take k).foldl (fun b a=>Tb.addKey b a.key) I);have a6:B.length=I.length:=by rw[hB];exact xv3 _ _
   have E:=HB.out;rw[<-hB]at E;have hU:=b_ wr (.cells #[.int .i64 x.s,.int .i64 x.k,.int .u64 (x.t:Int),.int .u64 (x.v:Int),.int .i64 x.x] 49);have U:=fun W=>ix4 x c9 W;unfold It.val at U;have a7:=H_ U;have HU:=H_ hU;have C:=H_ (c_ E (c_ hB a6));have HT:=H_ a5;clear U hU E hB a6 a5;go_wp2_with fail;refine(a7.out _).mono ?_;rintro e w2 ⟨A2,c2,rfl,a8,_,_,a9⟩;have Z:=az HU.out a9;have a':=nx4 f g B A2 10 c2 x.key w2 (C.out.1.1.below Z) (by rw[C.out.2.2];exact a0.1) (by rw[C.out.2.2];exact a0.2) o_ a8;have b1:=H_ a';have b2:=H_ Z;clear a' Z a8 a9 a7 HU;go_wp2_with fail;refine b1.out.mono ?_;rintro e w3 ⟨rfl,q1,q2⟩;have J:Below w.heap.size w w3:=by
    have h3:=C.out.1.2.trans (b2.out.mono C.out.1.2.size);exact h3.trans (q2.below h3.size (fun x hx=>by rw[a_.1 hx];exact HH.out.2.2.1))
   have b3:(l.take (k+1)).foldl (fun b a=>Tb.addKey b a.key) I=Tb.addKey B x.key:=by rw[HT.out,a6_,<-C.out.2.1];rfl
   have HF:=H_ (c_ (b3▸q1:BlAt w3 f g ((l.take (k+1)).foldl (fun b a=>Tb.addKey b a.key) I)) J);clear q1 q2 J b3 b1 b2;go_wp2;go_roundw
   case rel=>exact⟨k+1,o_,by go_num,HF⟩
   case measure=>simp[intOf];omega
  ·have b':((k:Int) < (m:Int))=False:=eq_false o_
   have O:l.take k=l:=g_ o_;have E:=HB.out;rw[O]at E;have HF:=H_ E;clear E HB O;go_wp2;go_ret;exact⟨f,g,rfl,HF.out.1,HH.out.2.1,HH.out.2.2.1,HF.out.2⟩
def HsAt (w:World) (g b:Nat) (M:List It):Prop:=(∃B,B<=1000000/\MpAt w b M B)/\BoxO w 165 g [.map (some b)]
theorem MpAt.below {w w':World} {b B:Nat} {M:List It} (h:MpAt w b M B) (C:Below w.heap.size w w'):MpAt w' b M B:=by
 obtain⟨es,clock,h1,h2⟩:=h;exact⟨es,clock,(C.block b (A_.1 h1).1).trans h1,h2⟩
theorem HsAt.below {w w':World} {g b:Nat} {M:List It} (h:HsAt w g b M) (C:Below w.heap.size w w'):HsAt w' g b M:=⟨let ⟨B,h1,h2⟩:=h.1;⟨B,h1,h2.below C⟩,h.2.below C⟩
theorem py3 (x:It) (g b:Nat) (M:List It) (w:World) (h:HsAt w g b M):Calls prog 102 #[x.val,.pointer (some ⟨g,0,none⟩)] w fun e w'=>e=.returned (.bool (decide (x∈M)))/\Below w.heap.size w w':=by
 obtain⟨⟨B,O,H⟩,I⟩:=h;have C:=H.below (b_ w (.cells #[.int .i64 x.s,.int .i64 x.k,.int .u64 (x.t:Int),.int .u64 (x.v:Int),.int .i64 x.x] 49));obtain⟨c,c1,c2,c3⟩:=C.look x;have c0:=(I.alloc (.cells #[.int .i64 x.s,.int .i64 x.k,.int .u64 (x.t:Int),.int .u64 (x.v:Int),.int .i64 x.x] 49)).c0;have E:=b_ w (.cells #[.int .i64 x.s,.int .i64 x.k,.int .u64 (x.t:Int),.int .u64 (x.v:Int),.int .i64 x.x] 49);rw[<-c2];have J:decide ((0:Int) < (c:Int))=decide (0 < c):=by simp
 unfold It.val at *;clear H C I c2;go_enter func102,ntmps102;go_wp2;go_ret;exact⟨by simp,E⟩
theorem grown_drew (w:World) (r:Option Nat):w.grownBy w.drew r:=⟨rfl,rfl,rfl,y_ _,fun _ _ _=>rfl⟩
theorem qz1 {w E H:World} {b:Nat} (h:w.grownBy E (some b)) (k:E.grownBy H (some b)):w.grownBy H (some b):=⟨k.os.trans h.os,k.tape.trans h.tape,k.output.trans h.output,j_ h.size k.size,fun g I C=>(k.block g (N_ I h.size) C).trans (h.block g I C)⟩
theorem ay3 {w wr H C:World} {k:Nat} {l:List It} {x:It} (J:H=wr.alloc (.cells #[.int .i64 x.s,.int .i64 x.k,.int .u64 (x.t:Int),.int .u64 (x.v:Int),.int .i64 x.x] 49)) (O:MpAt C w.heap.size (l.take k++[x]) (k+1)) (I:H.grownBy C (some w.heap.size)) (E:BoxO wr 165 (w.heap.size+1) [.map (some w.heap.size)]/\Below w.heap.size w wr) (Q:l.take (k+1)=l.take k++[x]):
  MpAt C w.heap.size (l.take (k+1)) (k+1)/\BoxO C 165 (w.heap.size+1) [.map (some w.heap.size)]/\Below w.heap.size w C:=by
 subst J;refine⟨by rw[Q];exact O,(E.1.alloc _).uq1 I s_,?_⟩;exact(E.2.alloc E.2.size _).grown I (by rw[Q_];have:=E.2.size;omega) (fun g e=>by cases e;exact y_ _)
theorem kz20 {P S a oi v} (h:Hv P S a oi v:=by intro w' C;obtain⟨m0,d0,d1,d2,d3,d4⟩:=HC.out w' C;go_simp;try (with_reducible rfl)):Hv P S a oi v:=h
theorem xz4 (A:Option Addr) (n c:Nat) (l:List It) (w:World) (hn:n<=1000000) (hr:Row w.heap.size w A n 5 (itc l)):
  Calls prog 37 #[.slice A n c] w fun e w'=>∃g b,e=.returned (.func (.func 102) #[] #[.pointer (some ⟨g,0,none⟩)])/\HsAt w' g b l/\Below w.heap.size w w':=by
 have a7:=hr.qj;have e6:=@run_makeMap prog;have h0:MpAt ((w.alloc (.map #[] 0)).alloc (.cells #[.map (some w.heap.size)] 165)) w.heap.size [] 0:=by
  refine⟨#[],0,?_,fun e he=>by simp at he,fun y hy=>by simp at hy⟩;rw[Below.heap_alloc _ _ _ s_,bD_]
 have a8:BoxO ((w.alloc (.map #[] 0)).alloc (.cells #[.map (some w.heap.size)] 165)) 165 (w.heap.size+1) [.map (some w.heap.size)]:=by
  have h1:=BoxO.new (w.alloc (.map #[] 0)) #[.map (some w.heap.size)] 165;rw[Q_]at h1;exact h1
 have a9:Below w.heap.size w ((w.alloc (.map #[] 0)).alloc (.cells #[.map (some w.heap.size)] 165)):=
  ((Below.refl _ w).alloc l_ _).alloc s_ _
 have HH:=H_ (c_ h0 (c_ a8 a9));have b7:=H_ a7;clear h0 a8 a9 a7;go_enter func37,ntmps37;go_wp2
 go_loopw [9] (fun i wr=>∃k:Nat,k<=n/\i=.int .i64 (k:Int)/\Hid (MpAt wr w.heap.size (l.take k) k/\BoxO wr 165 (w.heap.size+1) [.map (some w.heap.size)]/\Below w.heap.size w wr)) (fun i _=>n - (intOf i).toNat)
 case atStart=>exact⟨0,w_ _,rfl,HH⟩
 case round=>
  obtain⟨k,f5,rfl,Z⟩:=hrel
  by_cases b8:k < n
  ·obtain⟨p,hl,rfl,f7,e0,e1,e2,e3,e4⟩:=(hr.below Z.out.2.2).it b8
   have b9:(k:Int) < (n:Int):=o_
   have f8:IntKind.i64.wrap (k:Int)=(k:Int):=D_ _ o_;have a':l.take (k+1)=l.take k++[l[k]]:=r_ hl;generalize l[k]=x at *;have a2:BoxO (wr.alloc (.cells #[.int .i64 x.s,.int .i64 x.k,.int .u64 (x.t:Int),.int .u64 (x.v:Int),.int .i64 x.x] 49)) 49 wr.heap.size x.cells:=BoxO.new wr #[.int .i64 x.s,.int .i64 x.k,.int .u64 (x.t:Int),.int .u64 (x.v:Int),.int .i64 x.x] 49;obtain⟨W1,I⟩:=n_ (wr.alloc (.cells #[.int .i64 x.s,.int .i64 x.k,.int .u64 (x.t:Int),.int .u64 (x.v:Int),.int .i64 x.x] 49));have a0:MpAt W1 w.heap.size (l.take k) k:=by rw[I];exact Z.out.1.below ((Below.refl _ wr).alloc l_ _)
   have b1:MpAt W1.drew w.heap.size (l.take k) k:=a0;have b2:BoxO W1 165 (w.heap.size+1) [.map (some w.heap.size)]:=by rw[I];exact Z.out.2.1.alloc _
   rw[<-I]at a2;have d9:w.heap.size+1 < wr.heap.size:=Z.out.2.1.lt;obtain⟨g,hg⟩:=n_ wr.heap.size;have b3:∀w',W1.grownBy w' (some w.heap.size)->w'.cell? ⟨w.heap.size+1,0,none⟩=some (.map (some w.heap.size))/\w'.cell? ⟨g,0,none⟩=some (.int .i64 x.s)/\w'.cell? ⟨g,1,none⟩=some (.int .i64 x.k)/\w'.cell? ⟨g,2,none⟩=some (.int .u64 (x.t:Int))/\w'.cell? ⟨g,3,none⟩=some (.int .u64 (x.v:Int))/\w'.cell? ⟨g,4,none⟩=some (.int .i64 x.x):=by
    intro w' b5;have h1:=(b2.uq1 b5 s_).cell 0;have h2:=a2.uq1 b5 (by simp;omega);rw[<-hg]at h2;exact⟨h1,h2.cell 0,h2.cell 1,h2.cell 2,h2.cell 3,h2.cell 4⟩
   have HC:=H_ b3;have a4:=H_ b1;have HW:=H_ I;have b6:=H_ Z.out.2;have HT:=H_ a';have HG:=H_ hg;clear b3 b1 a0 I a' a2 b2 hg Z;go_wp2_with fail;rw[<-HW.out,<-HG.out];refine wp_region_held_drew (S:=fun w'=>W1.grownBy w' (some w.heap.size)) rfl (grown_drew _ _) (fun C=>?_);refine w_v 0 C ?_ (k:=kz20);go_simp;refine w_v 1 C ?_ (k:=kz20);go_simp;refine wpAnyH_ready (rs:=[2,4]) (by kernel_rfl) s_ ?_;refine AllReadyH.cons rfl (fun K E=>?_) (AllReadyH.cons rfl (fun K E=>?_) AllReadyH.nil)
   ·obtain⟨c,c1,_,c3⟩:=a4.out.look x
    unfold It.val at c3;go_simp;refine E.out _ _ C ?_;clear C E K;intro C;clear c3;have c':IntKind.i64.wrap ((c:Int)+1)=((c+1:Nat):Int):=by rw[D_ _ o_];omega
    go_simp;refine w_v 3 C ?_ (k:=kz20);go_simp;refine w_r 4 fun K E=>?_;obtain⟨v0,st,o1,J,H⟩:=a4.out.entry x;have U:=H_ H;unfold It.val at J;clear H;go_simp;refine E.out _ _ (qz1 C (ij1 _ _ _)) ?_;clear C E K;intro C;clear J;go_simp;refine w_v 5 C ?_ (k:=kz20);go_simp;refine w_r 6 fun K E=>?_;obtain⟨o2,O,Q⟩:=U.out.store (c+1) o_ o_;have a5:=H_ Q;clear Q;rw[show ((c+1:Nat):Int)=(c:Int)+1 from by omega]at O;go_simp;refine E.out _ _ (qz1 C (ij1 _ _ _)) ?_;clear C E K;intro C;clear O;go_simp;refine w_d ?_;have HF:=H_ (ay3 HW.out a5.out C b6.out HT.out);clear C;go_wp2;go_roundw
    case rel=>exact⟨k+1,o_,by go_num,HF.out⟩
    case measure=>simp[intOf];omega
   ·obtain⟨v0,st,o1,J,H⟩:=a4.out.entry x
    have U:=H_ H;unfold It.val at J;clear H;go_simp;refine E.out _ _ (qz1 C (ij1 _ _ _)) ?_;clear C E K;intro C;clear J;go_simp;refine w_v 5 C ?_ (k:=kz20);go_simp;refine w_r 2 fun K E=>?_;obtain⟨c,c1,c3⟩:=U.out.look x;unfold It.val at c3;go_simp;refine E.out _ _ C ?_;clear C E K;intro C;clear c3;have c':IntKind.i64.wrap ((c:Int)+1)=((c+1:Nat):Int):=by rw[D_ _ o_];omega
    go_simp;refine w_v 3 C ?_ (k:=kz20);go_simp;refine w_r 6 fun K E=>?_;obtain⟨o2,O,Q⟩:=U.out.store (c+1) o_ o_;have a5:=H_ Q;clear Q;rw[show ((c+1:Nat):Int)=(c:Int)+1 from by omega]at O;go_simp;refine E.out _ _ (qz1 C (ij1 _ _ _)) ?_;clear C E K;intro C;clear O;go_simp;refine w_d ?_;have HF:=H_ (ay3 HW.out a5.out C b6.out HT.out);clear C;go_wp2;go_roundw
    case rel=>exact⟨k+1,o_,by go_num,HF.out⟩
    case measure=>simp[intOf];omega
  ·have b9:((k:Int) < (n:Int))=False:=eq_false o_
   have a1:l.take k=l:=g_ (by have:=b7.out;omega);have hb:=Z.out;rw[a1]at hb;have HF:=H_ hb;clear hb Z a1;go_wp2;go_ret;exact⟨w.heap.size+1,w.heap.size,rfl,⟨⟨k,o_,HF.out.1⟩,HF.out.2.1⟩,HF.out.2.2⟩
def Mx (l:List It) (s:Int) (v:Nat):Prop:=(∃t∈l,t.k=1/\t.s=s/\t.v=v)/\∀t∈l,t.k=1->t.s=s->t.v<=v
def TmI (es:List MapEntry) (l:List It):Prop:=(∀e∈es,∃(s:Int) (v:Nat),e.key=.int .i64 s/\e.val=.int .u64 (v:Int)/\Mx l s v)/\(∀t∈l,t.k=1->∃e∈es,e.key=.int .i64 t.s)/\es.Pairwise fun a b=>a.key≠b.key
def TmAt (w:World) (b:Nat) (l:List It):Prop:=∃es clock,w.heap[b]?=some (.map es clock)/\TmI es.toList l
variable {w w':World} {b:Nat} {l:List It}
theorem TmAt.below (h:TmAt w b l) (C:Below w.heap.size w w'):TmAt w' b l:=by
 obtain⟨es,clock,h1,h2⟩:=h;exact⟨es,clock,(C.block b (A_.1 h1).1).trans h1,h2⟩
theorem TmAt.look (h:TmAt w b l) (s:Int):∃(v:Nat) (ok:Bool),(Instr.lookup 331 (.map (some b)) (.int .i64 s) false).run prog w=.ok (.int .u64 (v:Int)) w/\(Instr.lookup 331 (.map (some b)) (.int .i64 s) true).run prog w=.ok (.tuple #[.int .u64 (v:Int),.bool ok]) w/\
  (ok=true->Mx l s v)/\(ok=false->v=0/\∀t∈l,t.k=1->t.s≠s):=by
 obtain⟨es,clock,H,h1,h2,_⟩:=h;have I:prog.underlying 331=some (.map 3 27):=by kernel_rfl
 have hd:prog.underlying 3=some (.int .i64):=by kernel_rfl
 have hz:(zeroValue 27).run prog w=.ok (.int .u64 0) w:=by kernel_rfl
 have E:=MapKept.run_checkKey (w:=w) hd (k:=.int .i64 s) rfl es.isEmpty 9999
 rcases MapKept.findNow_spec (d:=.int .i64) (k:=.int .i64 s) rfl es.toList 0 (fun e O=>by obtain⟨s',v,Q,_⟩:=h1 e O;rw[Q];exact rfl) with ⟨U,Z⟩|⟨j,e,U,Z,k3⟩
 ·have C:=MapKept.run_findKey (w:=w) hd U
  refine⟨0,false,?_,?_,by simp,fun _=>⟨rfl,fun t a0 a1 hs=>?_⟩⟩
  ·simp[Instr.lookup,run_underlying I,MapKept.run_getObj_map H,E,C,hz]
  ·simp[Instr.lookup,run_underlying I,MapKept.run_getObj_map H,E,C,hz]
  ·obtain⟨e,O,Q⟩:=h2 t a0 a1
   exact Z e O (by rw[Q,hs])
 ·have C:=MapKept.run_findKey (w:=w) hd U
  obtain⟨s',v,J,e2,e3⟩:=h1 e (t_ Z);rw[k3]at J;injection J with _ J;subst J;refine⟨v,true,?_,?_,fun _=>e3,by simp⟩
  ·simp[Instr.lookup,run_underlying I,MapKept.run_getObj_map H,E,C,e2]
  ·simp[Instr.lookup,run_underlying I,MapKept.run_getObj_map H,E,C,e2]
theorem Mx.more {s:Int} {v:Nat} (h:Mx l s v) {x:It} (E:x.k=1->x.s≠s):Mx (l++[x]) s v:=by
 obtain⟨⟨t,h1,h2⟩,h3⟩:=h;refine⟨⟨t,x_ _ h1,h2⟩,fun u H C hs=>?_⟩
 rcases k_.1 H with q|q
 ·exact h3 u q C hs
 ·rw[a_.1 q]at C hs
  exact absurd hs (E C)
theorem TmAt.skip (h:TmAt w b l) {x:It} (E:x.k≠1):TmAt w b (l++[x]):=by
 obtain⟨es,clock,H,h1,h2,h3⟩:=h;refine⟨es,clock,H,fun e I=>?_,fun t J C=>?_,h3⟩
 ·obtain⟨s,v,O,Q,U⟩:=h1 e I
  exact⟨s,v,O,Q,U.more fun h=>absurd h E⟩
 ·rcases k_.1 J with q|q
  ·exact h2 t q C
  ·rw[a_.1 q]at C
   exact absurd C E
theorem TmAt.put (h:TmAt w b l) (x:It) (hx:x.k=1) (v0:Nat) (ok:Bool) (h1:ok=true->Mx l x.s v0) (h0:ok=false->v0=0/\∀t∈l,t.k=1->t.s≠x.s):
  ∃o:Obj,(Instr.mapUpdate 331 (.map (some b)) (.int .i64 x.s) (.int .u64 (max (v0:Int) (x.v:Int)))).run prog w=.ok () (putB w b o)/\TmAt (putB w b o) b (l++[x]):=by
 obtain⟨es,clock,hb,k1,k2,k3⟩:=h;have a6:=(A_.1 hb).1;have Q:prog.underlying 331=some (.map 3 27):=by kernel_rfl
 have hd:prog.underlying 3=some (.int .i64):=by kernel_rfl
 have U:MapKept.IsKey (.int .i64) (.int .i64 x.s):=rfl;have a7:=MapKept.run_checkKey (w:=w) hd U;have hm:Mx (l++[x]) x.s (max v0 x.v):=by
  refine⟨?_,fun t Q I hs=>?_⟩
  ·rcases Nat.le_total v0 x.v with q|q
   ·exact⟨x,by simp,hx,rfl,o_⟩
   ·cases ok with
    |true=>
     obtain⟨⟨t,t1,t2,t3,t4⟩,_⟩:=h1 rfl;exact⟨t,x_ _ t1,t2,t3,o_⟩
    |false=>exact⟨x,by simp,hx,rfl,by have:=(h0 rfl).1;omega⟩
  ·rcases k_.1 Q with q|q
   ·cases ok with
    |true=>have:=(h1 rfl).2 t q I hs;omega
    |false=>exact absurd hs ((h0 rfl).2 t q I)
   ·rw[a_.1 q]
    omega
 have Z:max (v0:Int) (x.v:Int)=((max v0 x.v:Nat):Int):=o_
 rw[Z];generalize max v0 x.v=J at *
 rcases MapKept.findNow_spec (d:=.int .i64) U es.toList 0 (fun e H=>by obtain⟨s',v,I,_⟩:=k1 e H;rw[I];exact rfl) with ⟨q1,O⟩|⟨j,e,q1,O,q3⟩
 ·have a0:=MapKept.run_findKey (w:=w) hd q1
  refine⟨.map (es.push ⟨.int .i64 x.s,.int .u64 (J:Int),clock⟩) (clock+1),by simp[Instr.mapUpdate,run_underlying Q,MapKept.run_getObj_map hb,a7,a0,MapKept.run_setObj_map _ hb],_,_,ox1 a6,fun e H=>?_,fun t Q I=>?_,?_⟩
  ·simp only[bg_,k_,a_]at H
   rcases H with H|rfl
   ·obtain⟨s,v,e1,e2,e3⟩:=k1 e H
    exact⟨s,v,e1,e2,e3.more fun _ hs=>O e H (by rw[e1,hs])⟩
   ·exact⟨x.s,J,rfl,rfl,hm⟩
  ·simp only[bg_]
   rcases k_.1 Q with q|q
   ·obtain⟨e,H,I⟩:=k2 t q I
    exact⟨e,x_ _ H,I⟩
   ·rw[a_.1 q]
    exact⟨_,p_ _ (a_.2 rfl),rfl⟩
  ·simp only[bg_]
   exact aO_.2 ⟨k3,a4_ _ _,fun a ha c hc=>by rw[a_.1 hc];exact O a ha⟩
 ·have a0:=MapKept.run_findKey (w:=w) hd q1
  have hj:es[j]?=some e:=by simpa using O
  have b':(Instr.keyThatStays (.int .i64 x.s) (.int .i64 x.s)).run prog w=.ok (.int .i64 x.s) w:=MapKept.run_keyThatStays U;have E:∀i:Nat,(es.modify j fun e=>{ e with key:=.int .i64 x.s,val:=.int .u64 (J:Int) }).toList[i]?=if j=i then some { e with key:=.int .i64 x.s,val:=.int .u64 (J:Int) } else es.toList[i]?:=fun i=>by
   rw[bL_,bq_]
   by_cases C:j=i
   ·subst C
    rw[O];simp
   ·simp[C]
  refine⟨.map (es.modify j fun e=>{ e with key:=.int .i64 x.s,val:=.int .u64 (J:Int) }) clock,by simp[Instr.mapUpdate,run_underlying Q,MapKept.run_getObj_map hb,a7,a0,hj,q3,b',MapKept.run_setObj_map _ hb],_,_,ox1 a6,fun e' H=>?_,fun t Q I=>?_,?_⟩
  ·obtain⟨i,hi⟩:=bC_ H
   rw[E]at hi
   by_cases C:j=i
   ·rw[if_pos C]at hi
    injection hi with hi;subst hi;exact⟨x.s,J,rfl,rfl,hm⟩
   ·rw[if_neg C]at hi
    obtain⟨s,v,e1,e2,e3⟩:=k1 e' (t_ hi);refine⟨s,v,e1,e2,e3.more fun _ hs=>?_⟩;obtain⟨a',ej⟩:=J_.1 O;obtain⟨b0,ei⟩:=J_.1 hi;have c':e.key≠e'.key:=by
     rw[<-ej,<-ei]
     rcases ch_ C with q|q
     ·exact ap_.1 k3 j i a' b0 q
     ·exact(ap_.1 k3 i j b0 a' q).symm
    exact c' (by rw[q3,e1,hs])
  ·have hex:∀s,(∃e∈es.toList,e.key=.int .i64 s)->∃e'∈(es.modify j fun e=>{ e with key:=.int .i64 x.s,val:=.int .u64 (J:Int) }).toList,e'.key=.int .i64 s:=fun s ⟨e',d0,b1⟩=>by
    obtain⟨i,hi⟩:=bC_ d0
    by_cases C:j=i
    ·refine⟨_,t_ (i:=i) ((E i).trans (if_pos C)),?_⟩
     subst C;rw[O]at hi;have hi:=ai_ hi;exact q3.symm.trans ((congrArg MapEntry.key hi).trans b1)
    ·exact⟨e',t_ (i:=i) ((E i).trans ((if_neg C).trans hi)),b1⟩
   refine hex _ ?_
   rcases k_.1 Q with q|q
   ·exact k2 t q I
   ·rw[a_.1 q]
    exact⟨e,t_ O,q3⟩
  ·refine ap_.2 fun a c ha hc d1=>?_
   have b2:∀i (hi:i < (es.modify j fun e=>{ e with key:=.int .i64 x.s,val:=.int .u64 (J:Int) }).toList.length),∃h:i < es.toList.length,((es.modify j fun e=>{ e with key:=.int .i64 x.s,val:=.int .u64 (J:Int) }).toList[i]).key=(es.toList[i]).key:=fun i hi=>by
    have h1:i < es.toList.length:=by simpa using hi
    refine⟨h1,?_⟩;have h2:=E i;rw[h_ hi]at h2
    by_cases C:j=i
    ·rw[if_pos C]at h2
     have h2:=ai_ h2;refine(congrArg MapEntry.key h2).trans ?_;subst C;obtain⟨_,ej⟩:=J_.1 O;rw[ej];exact q3.symm
    ·rw[if_neg C,h_ h1]at h2
     have h2:=ai_ h2;exact congrArg MapEntry.key h2
   obtain⟨a1,a2⟩:=b2 a ha;obtain⟨c1,c2⟩:=b2 c hc;rw[a2,c2];exact ap_.1 k3 a c a1 c1 d1
def HdAt (w:World) (g b:Nat) (l:List It):Prop:=TmAt w b l/\BoxO w 331 g [.map (some b)]
theorem bq6 {x:It} (h:∀t∈l,t.k=1->t.s≠x.s):hidden l x=false:=by
 unfold hidden;rw[X_];intro t E;unfold It.hides
 by_cases C:t.k=1
 ·simp[C,h t E C]
 ·simp[C]
theorem yy5 {x:It} {v:Nat} (h:Mx l x.s v):hidden l x=(x.k==2&&decide (x.v<=v)):=by
 obtain⟨⟨t,t1,t2,t3,t4⟩,h2⟩:=h;unfold hidden
 by_cases C:x.k=2
 ·by_cases E:x.v<=v
  ·rw[show (x.k==2&&decide (x.v<=v))=true by simp[C,E]]
   exact ay_.2 ⟨t,t1,by simp[It.hides,t2,t3,C,t4,E]⟩
  ·rw[show (x.k==2&&decide (x.v<=v))=false by simp[E],X_]
   intro u H;unfold It.hides
   by_cases h3:u.k=1
   ·by_cases h4:u.s=x.s
    ·have:=h2 u H h3 h4
     have h5:¬x.v<=u.v:=o_
     simp[h5]
    ·simp[h4]
   ·simp[h3]
 ·rw[show (x.k==2&&decide (x.v<=v))=false by simp[C],X_]
  intro u H;simp[It.hides,C]
theorem ew4 (x:It) (g b:Nat) (l:List It) (w:World) (h:HdAt w g b l):Calls prog 260 #[x.val,.pointer (some ⟨g,0,none⟩)] w fun e w'=>e=.returned (.bool (hidden l x))/\Below w.heap.size w w':=by
 obtain⟨hm,hb⟩:=h;obtain⟨J,I,t1,O,Z⟩:=x;have Q:=hm.below (b_ w (.cells #[.int .i64 J,.int .i64 I,.int .u64 (t1:Int),.int .u64 (O:Int),.int .i64 Z] 49));obtain⟨v,ok,_,c2,c3,c4⟩:=Q.look J;have c0:=(hb.alloc (.cells #[.int .i64 J,.int .i64 I,.int .u64 (t1:Int),.int .u64 (O:Int),.int .i64 Z] 49)).c0;have E:=b_ w (.cells #[.int .i64 J,.int .i64 I,.int .u64 (t1:Int),.int .u64 (O:Int),.int .i64 Z] 49);obtain⟨r,U⟩:=n_ (hidden l ⟨J,I,t1,O,Z⟩);rw[<-U];unfold It.val;simp only;clear hm Q hb
 cases ok with
 |false=>
  have H:=H_ (U.trans (bq6 (c4 rfl).2));clear U c3 c4;go_enter func260,ntmps260;go_wp2;go_ret;exact⟨ik H.out.symm,E⟩
 |true=>
  have C:=U.trans (yy5 (c3 rfl));clear U c3 c4
  by_cases hk:I=2
  ·subst hk
   by_cases hv:(O:Int)<=(v:Int)
   ·have H:=H_ (C.trans (show _=true by simp;omega))
    clear C;go_enter func260,ntmps260;go_wp2;go_ret;exact⟨ik H.out.symm,E⟩
   ·have H:=H_ (C.trans (show _=false by simp;omega))
    clear C;go_enter func260,ntmps260;go_wp2;go_ret;exact⟨ik H.out.symm,E⟩
  ·have H:=H_ (C.trans (show _=false by simp[hk]))
   have e1:(I==2)=false:=by simpa using hk
   clear C;go_enter func260,ntmps260;go_wp2;go_ret;exact⟨ik H.out.symm,E⟩
theorem qv4 (A:Option Addr) (n c:Nat) (l:List It) (w:World) (hn:n<=1000000) (hr:Row w.heap.size w A n 5 (itc l)):
  Calls prog 215 #[.slice A n c] w fun e w'=>∃g b,e=.returned (.func (.func 260) #[] #[.pointer (some ⟨g,0,none⟩)])/\HdAt w' g b l/\(w.heap.size<=g/\w.heap.size<=b)/\Below w.heap.size w w':=by
 have Z:=hr.qj;have b2:=@run_makeMap prog;have h0:TmAt ((w.alloc (.map #[] 0)).alloc (.cells #[.map (some w.heap.size)] 331)) w.heap.size []:=by
  refine⟨#[],0,?_,fun e he=>by simp at he,fun y hy=>by simp at hy,aY_⟩;rw[Below.heap_alloc _ _ _ s_,bD_]
 have a0:BoxO ((w.alloc (.map #[] 0)).alloc (.cells #[.map (some w.heap.size)] 331)) 331 (w.heap.size+1) [.map (some w.heap.size)]:=by
  have h1:=BoxO.new (w.alloc (.map #[] 0)) #[.map (some w.heap.size)] 331;rw[Q_]at h1;exact h1
 have a1:Below w.heap.size w ((w.alloc (.map #[] 0)).alloc (.cells #[.map (some w.heap.size)] 331)):=
  ((Below.refl _ w).alloc l_ _).alloc s_ _
 have HH:=H_ (c_ h0 (c_ a0 a1));have a4:=H_ Z;clear h0 a0 a1 Z;go_enter func215,ntmps215;go_wp2
 go_loopw [9] (fun i wr=>∃k:Nat,k<=n/\i=.int .i64 (k:Int)/\Hid (TmAt wr w.heap.size (l.take k)/\BoxO wr 331 (w.heap.size+1) [.map (some w.heap.size)]/\Below w.heap.size w wr)) (fun i _=>n - (intOf i).toNat)
 case atStart=>exact⟨0,w_ _,rfl,HH⟩
 case round=>
  obtain⟨k,b7,rfl,U⟩:=hrel
  by_cases a5:k < n
  ·obtain⟨p,hl,rfl,b9,e0,e1,e2,e3,e4⟩:=(hr.below U.out.2.2).it a5
   have a6:(k:Int) < (n:Int):=o_
   have I:l.take (k+1)=l.take k++[l[k]]:=r_ hl;generalize l[k]=x at *;obtain⟨h1,h2,h3⟩:=U.out;have J:=b_ wr (.cells #[.int .i64 x.s,.int .i64 x.k,.int .u64 (x.t:Int),.int .u64 (x.v:Int),.int .i64 x.x] 49);have C:=h1.below J;have E:=h2.alloc (.cells #[.int .i64 x.s,.int .i64 x.k,.int .u64 (x.t:Int),.int .u64 (x.v:Int),.int .i64 x.x] 49);have H:=az h3 J;have m0:=E.c0
   by_cases hx:x.k=1
   ·have a7:(x.k==1)=true:=by simpa using hx
    obtain⟨v,ok,c1,_,c3,c4⟩:=C.look x.s;obtain⟨o,c5,h4⟩:=C.put x hx v ok c3 c4;rw[<-I]at h4;have Q:=ij1 (wr.alloc (.cells #[.int .i64 x.s,.int .i64 x.k,.int .u64 (x.t:Int),.int .u64 (x.v:Int),.int .i64 x.x] 49)) w.heap.size o;clear hx;have HN:=H_ (c_ h4 (c_ (E.uq1 Q s_) (H.grown Q (by have:=H.size;omega) (fun g e=>by cases e;exact y_ _))));clear h4 Q h1 C h2 E h3 H J I c3 c4 U;go_wp2;go_roundw
    case rel=>exact⟨k+1,o_,by go_num,HN⟩
    case measure=>simp[intOf];omega
   ·have a7:(x.k==1)=false:=by simpa using hx
    have HN:=H_ (c_ (I▸C.skip hx) (c_ E H));clear h1 C h2 E h3 H J I U;go_wp2;go_roundw
    case rel=>exact⟨k+1,o_,by go_num,HN⟩
    case measure=>simp[intOf];omega
  ·have a6:((k:Int) < (n:Int))=False:=eq_false o_
   have O:l.take k=l:=g_ (by have:=a4.out;omega);have hb:=U.out;rw[O]at hb;have HF:=H_ hb;clear hb U O;go_wp2;go_ret;exact⟨w.heap.size+1,w.heap.size,rfl,⟨HF.out.1,HF.out.2.1⟩,⟨o_,y_ _⟩,HF.out.2.2⟩
def tw1 (w:World) (R:List It) (e:Ending) (w':World):Prop:=∃A' k c',e=.returned (.slice A' k k)/\k=R.length/\w'.ownsRow w.heap.size 49 5 (.slice A' k c') k (itc R)/\k<=c'/\c'<=maxLen/\Below w.heap.size w w'
theorem mx1 {W:World} {b s n c:Nat} {t:TypeId} {A:Option Addr} {xs:List Value} (h:W.ownsRow b t s (.slice A n c) n xs):n<=c/\c<=maxLen/\∀a,A=some a->b<=a.block:=by
 obtain⟨P,c0,q1,C,E,H⟩:=gz h;injection q1 with q1 _ I;subst q1 I;exact⟨C,E,fun a J=>(H a J).1⟩
theorem bw2 {w C:World} {A:Option Addr} (E:∀F,(∀a,A=some a->F=[a.block])->Chg F w C):Chg (A.map (·.block)).toList w C:=E _ fun a H=>by subst H;rfl
theorem TmAt.chg {w C:World} {b:Nat} {l:List It} {G:List Nat} (h:TmAt w b l) (c:Chg G w C) (E:b∉G):TmAt C b l:=by
 obtain⟨es,clock,h1,h2⟩:=h;exact⟨es,clock,(c.block b (A_.1 h1).1 E).trans h1,h2⟩
theorem sq1 {A:Option Addr} {g:Nat} (h:∀a,A=some a->a.block≠g):g∉(A.map (·.block)).toList:=by
 cases A with
 |none=>simp
 |some a=>simpa using fun e=>h a rfl e.symm
theorem clean_any (A:Option Addr) (n c:Nat) (l:List It) (w:World) (hn:n<=1000000) (hr:Row w.heap.size w A n 5 (itc l)):
  Calls prog 157 #[.slice A n c] w (tw1 w (clean l)):=by
 obtain⟨i0,a2,a4,a5,a6⟩:=info_parts qw;have HR:=H_ hr;clear hr;go_enter func157,ntmps157;go_wp2_with (at_builtin;refine iy ?_);refine bz (vw rfl _ (.tmp 3) _ rfl w.heap.size 49 i0 _ 5 40 underlying26 a2 a4 a5 a6 rfl o_ w b0_ l_ rfl w.heap.size A n c (itc l) rfl HR.out (uj l) (by unfold maxLen;omega) o_ ?_);intro A1 c1 w1 h1 h2 h3 h4 h5;have J:=qv4 A n c l w1 hn ((HR.out.below h2).up h2.size);have HH:=H_ J;have H1:=H_ (c_ h1 h2);clear J h1 h2 h3;go_wp2_with fail;refine HH.out.mono ?_;rintro e w2 ⟨g,b,rfl,hh,⟨hg,hb⟩,C⟩;have O:=own_below H1.out.1 C;have E:=az H1.out.2 C;have H:∀a,A1=some a->a.block < w1.heap.size:=fun a Q=>(H1.out.1.lt a.block (by subst Q;rfl)).2;have U:=rx1 260 (fun _ _=>rfl) #[.pointer (some ⟨g,0,none⟩)] (fun x=>hidden l x) w.heap.size A1 n c1 c1 l w2 hn h4 l_ E.size O (fun x w3 hc=>by
  have c3:=bw2 hc;exact ew4 x g b l w3 ⟨hh.1.chg c3 (sq1 fun a Q=>by have:=H a Q;omega),hh.2.chg c3 (sq1 fun a Q=>by have:=H a Q;omega)⟩)
 have HD:=H_ U;have HW:=H_ E;clear U O hh C H HH H1 E;go_wp2_with fail;refine HD.out.mono ?_;rintro e w3 ⟨k,A3,rfl,hk,I,Z⟩;obtain⟨q2,q3,_⟩:=mx1 I;have HC:=H_ (ny1 A3 k c1 w3 q2);have H3:=H_ (show tw1 w (clean l) (.returned (.slice A3 k k)) w3 from ⟨A3,k,c1,rfl,hk,I,q2,q3,HW.out.trans Z⟩);clear hk I Z HD HW;go_wp2_with fail;refine HC.out.mono ?_;rintro e w4 ⟨rfl,rfl⟩;go_wp2;go_ret;exact H3.out
theorem cy2 (A:Option Addr) (n c:Nat) (l:List It) (v:Nat) (w:World) (hn:n<=1000000) (hr:Row w.heap.size w A n 5 (itc l)):
  Calls prog 75 #[.slice A n c,.int .u64 (v:Int)] w (tw1 w (yj (clean l) v)):=by
 have C:=b_ w (.cells #[.int .u64 (v:Int)] 27);have U:=BoxO.new w #[.int .u64 (v:Int)] 27;have Z:=clean_any A n c l (w.alloc (.cells #[.int .u64 (v:Int)] 27)) hn ((hr.below C).up C.size);have a0:(clean l).length<=1000000:=j_ (L_ _ _) (by have:=hr.qj;omega);have HC:=H_ Z;have HX:=H_ (c_ C U);have HL:=H_ a0;clear Z C U hr a0;go_enter func75,ntmps75;go_wp2_with fail;refine HC.out.mono ?_;rintro e w1 ⟨A1,k1,c1,rfl,a1,I,b0,c',J⟩;have a2:=H_ a1;clear a1;have H:=HX.out.2.below J;have O:=az HX.out.1 J;have b1:w.heap.size < (w.alloc (.cells #[.int .u64 (v:Int)] 27)).heap.size:=by rw[Q_];omega
 have a4:∀a,A1=some a->a.block≠w.heap.size:=fun a ha=>by
  have:=(mx1 I).2.2 a ha;omega
 have a5:=rx1 158 (fun _ _=>rfl) #[.pointer (some ⟨w.heap.size,0,none⟩)] (fun x=>x.k==1&&decide (x.v<=v)) w.heap.size A1 k1 k1 c1 (clean l) w1 (by rw[a2.out];exact HL.out) l_ b0 O.size (own_base I o_) (fun x w3 hc=>ek3 x v w.heap.size w3 (by
  have E:=H.chg (bw2 hc) (sq1 a4);exact E.cell 0))
 have HD:=H_ a5;have HW:=H_ O;clear a5 I H J a4 b1 HC HX O;go_wp2_with fail;refine HD.out.mono ?_;rintro e w3 ⟨k,A3,rfl,hk,Q,E⟩;obtain⟨q2,q3,_⟩:=mx1 Q;have b5:k<=k1:=by rw[hk,a2.out];exact L_ _ _
 have HC:=H_ (ny1 A3 k k1 w3 b5);have H3:=H_ (show tw1 w (yj (clean l) v) (.returned (.slice A3 k k)) w3 from ⟨A3,k,c1,rfl,hk,Q,q2,q3,HW.out.trans E⟩);clear hk Q E HD HW;go_wp2_with fail;refine HC.out.mono ?_;rintro e w4 ⟨rfl,rfl⟩;go_wp2;go_ret;exact H3.out
end Go.Proofs.YtkdbagdiplpcfaaGreatDoor
