/- Some of the texts. No conditions. -/
import Derived.Test.YtfbkjjdfboagfaaGreatDoorBunAG
import Derived.Test.YtfbkjjdfboagfaaGreatDoorBunAI
import Derived.Test.YtfbkjjdfboagfaaGreatDoorBunAJ

set_option linter.unusedSimpArgs false
set_option linter.unusedVariables false
set_option maxRecDepth 100000
set_option maxHeartbeats 16000000
namespace Go.Proofs.YtfbkjjdfboagfaaGreatDoor
open Go.Proofs.Tryz Go Go.RowKit Go.Lib Go.Shelf
structure BlAt (w:World) (f g:Nat) (b:List UInt8):Prop where
 box:BoxO w 334 f [.int .i64 7,.slice (some g) b.length b.length]
 bits:BoxO w 5 g (bts b)
 ne:f≠g
theorem BlAt.below {w w':World} {f g:Nat} {b:List UInt8} (h:BlAt w f g b) (o:Below w w w'):BlAt w' f g b:=⟨h.box.below o,h.bits.below o,h.ne⟩
theorem vk4 (n:Nat) (w:World) (hn:n<=2000):
  Calls prog 258 #[(n:Int),.int .i64 10] w fun e w'=>∃f g,e=.returned (.tuple #[.pointer (some ⟨f,0,none⟩),.int .i64 0])/\BlAt w' f g (List.replicate (Tb.nz2 n) 0)/\(w:Nat)<=f/\(w:Nat)<=g/\Below w w w':=by
 obtain⟨Q,z,C,E,H⟩:=info_parts gv1;obtain⟨fs,o⟩:=n_ (Tb.nz2 n);have U:fs<=3000:=by rw[o];unfold Tb.nz2;omega
 obtain⟨cs,I,a0⟩:=fq6 77 5 Q (Value.int .u8 0) underlying77 z C E rfl fs (by rw[H];omega) o_;rw[<-o];have n1:((n:Int) < 0)=False:=eq_false o_;have n2:(10000 < (n:Int))=False:=eq_false o_;have a1:IntKind.i64.wrap ((n:Int)*10)=(n:Int)*10:=M_ _ o_;have hq:(max ((n:Int)*10) 64+8 - 1) / 8=(fs:Int):=by rw[o];unfold Tb.nz2;omega
 have a2:max (7:Int) 1=7:=by decide
 have a4:=H_ o;clear o;go_enter func258,ntmps258;go_wp2;go_ret2;have J:BoxO (w.alloc (.cells cs 5)) 5 (w:Nat) (bts (List.replicate fs 0)):=by
  have:=BoxO.new w cs 5;rw[I]at this;simpa [bts] using this
 have O:(w.alloc (.cells cs 5)).heap.size=(w:Nat)+1:=by simp
 refine⟨(w:Nat)+1,(w:Nat),rfl,⟨?_,J.alloc _,o_⟩,o_,B_ _,(b_ w _).alloc o_ _⟩;rw[<-O,b7_];exact BoxO.new _ _ _
theorem zz5 (o k size x:Nat) (z:x=(((o % 4294967296+k *(o / 4294967296)) % 4294967296)) % (size *8)):((o:Int)+(k:Int)*((o:Int) / 4294967296)) % 4294967296 % ((size:Int)*8)=(x:Int):=by
 have C:((k *(o / 4294967296):Nat):Int)=(k:Int)*((o:Int) / 4294967296):=by rw[Int.natCast_mul,Int.natCast_ediv];rfl
 have e:(o % 4294967296+k *(o / 4294967296)) % 4294967296=(o+k *(o / 4294967296)) % 4294967296:=by
  generalize k *(o / 4294967296)=q;omega
 rw[z,e,<-C];generalize k *(o / 4294967296)=q;have h3:((o:Int)+(q:Int)) % 4294967296=(((o+q) % 4294967296:Nat):Int):=o_
 have h4:(size:Int)*8=((size *8:Nat):Int):=o_
 rw[h3,h4];exact(Int.natCast_emod _ _).symm
theorem fk6 (o k size x:Nat) (z:0 < size) (C:size<=3000) (E:x=(((o % 4294967296+k *(o / 4294967296)) % 4294967296)) % (size *8)):x < 24000:=by
 have:=bB_ (((o % 4294967296+k *(o / 4294967296)) % 4294967296)) (show 0 < size *8 by omega);rw[<-E]at this;omega
theorem yz5 (x:Nat) (o:x < 24000):wrap64 (x:Int)=(x:Int):=by unfold wrap64;omega
theorem bw3 (f g:Nat) (b:List UInt8) (K:Option Addr) (m c:Nat) (key:List UInt8) (w:World) (h:BlAt w f g b) (Q:0 < b.length) (U:b.length<=3000) (hm:m<=1000) (hr:Row w w K m 1 (bts key)):
  Calls prog 290 #[f,.slice K m c] w fun e w'=>∃A' c',e=.returned (.slice A' 7 c')/\w'.ownsRow w 3 1 (.slice A' 7 c') 7 (i64v (Tb.places b.length key))/\Below w w w':=by
 obtain⟨i0,b0,b1,b2,b3⟩:=info_parts by2;have hh:=wq3 K m c key w o_ hr;obtain⟨size,z⟩:=n_ b.length;obtain⟨I,E⟩:=n_ ((Fnv.hash key).toNat);obtain⟨P,hP⟩:=n_ (Tb.places size key);have d8:I < 18446744073709551616:=by rw[E];exact(Fnv.hash key).isLt
 have a0:P.length=7:=by rw[hP];simp[Tb.places]
 have a1:∀k,k < 7->P[k]?=some ((((I % 4294967296+k *(I / 4294967296)) % 4294967296)) % (size *8)):=fun k hk=>by
  rw[hP,E];simp[Tb.places,hk]
 rw[<-z,<-hP];rw[<-E]at hh;have c0:=h.box.cell 0;have c1:=h.box.cell 1;simp only[gE0,gE1,<-z]at c0 c1;rw[<-z]at Q U;have HH:=H_ hh;have b7:=H_ a1;have b8:=H_ a0;clear hh a1 hP E z h a0 hr;go_enter func290,ntmps290;go_wp2_with fail;refine HH.mono ?_;rintro e w1 ⟨rfl,rfl⟩;clear HH;go_wp2_with fail
 go_loopw [9,29] (fun o i wr=>∃(k:Nat) (A2:Option Addr) (c2:Nat),k<=7/\o=.slice A2 k c2/\i=.int .i64 (k:Int)/\wr.ownsRow w 3 1 (.slice A2 k c2) k (i64v (P.take k))/\Below w w wr) (fun _ i _=>7 - (intOf i).toNat)
 case atStart=>exact⟨0,none,0,o_,rfl,rfl,G_ _ _ _ _,Below.refl _ _⟩
 case round=>
  obtain⟨k,A2,c2,d9,rfl,rfl,O,C⟩:=hrel;have HO:=H_ O;clear O
  by_cases hk:k < 7
  ·have b9:(k:Int) < 7:=o_
   have d':IntKind.i64.wrap (k:Int)=(k:Int):=M_ _ o_;have e0:IntKind.u32.wrap (k:Int)=(k:Int):=by simp only[IntKind.wrap_u32];omega
   obtain⟨x,hx⟩:∃x:Nat,x=(((I % 4294967296+k *(I / 4294967296)) % 4294967296)) % (size *8):=⟨_,rfl⟩;have J:=b7.out k hk;rw[<-hx]at J;have e1:=zz5 I k size x hx;have b':=fk6 I k size x Q U hx;have d3:=yz5 x b';have a2:i64v (P.take k)++[.int .i64 x]=i64v (P.take (k+1)):=by
    rw[List.take_add_one,J,ez3];rfl
   have H:Row (wr.alloc (.cells #[(x:Int)] 3)).heap.size (wr.alloc (.cells #[(x:Int)] 3)) (some ⟨wr,0,none⟩) 1 1 [(x:Int)]:=by
    have:=Row.new wr #[(x:Int)] 3 (n:=1) (size:=1) rfl;simpa using this
   have a4:=C.alloc C.size (.cells #[(x:Int)] 3);have a5:=HO.alloc (.cells #[(x:Int)] 3);have HR:=H_ H;have HB:=H_ a4;have a6:=H_ a5;have HT:=H_ a2;clear H a4 a5 a2 J hx HO;go_wp2_with (at_builtin;refine iq ?_);refine gz (iy rfl (.tmp 32) (.tmp 42) _ rfl (w:Nat) 3 i0 _ 1 8 underlying73 b0 b1 b2 b3 rfl o_ w HB.out HB.size _ k _ rfl a6.out _ _ 1 1 [(x:Int)] rfl HR.out (by simp[Value.oneCell']) (k+1) _ rfl HT.out (by unfold maxLen;omega) o_ ?_);intro A3 c3 w5 z1 z2 z3 z4 z5;have HF:=H_ z1;clear z1 z3 HR HB a6 HT;go_wp2;go_roundw
   case rel=>exact⟨k+1,A3,c3,o_,rfl,by go_num,HF,z2⟩
   case measure=>simp[intOf];omega
  ·have b9:((k:Int) < 7)=False:=eq_false o_
   have a7:k=7:=o_
   subst a7;have O:=HO.out;rw[i_ (by rw[b8.out];exact B_ _)]at O;have HF:=H_ O;clear O HO;go_wp2;go_ret;exact⟨A2,c2,rfl,HF,C⟩
theorem or_bit (c:UInt8) {j:Nat} (hj:j < 8):bits .or .u8 (c.toNat:Int) ((2 ^ j:Nat):Int)=((c|||UInt8.ofNat (2 ^ j)).toNat:Int):=by
 have key:∀(y:Fin 256) (j:Fin 8),bits .or .u8 ((y.val:Nat):Int) ((2 ^ j.val:Nat):Int)=(((UInt8.ofNat y.val)|||UInt8.ofNat (2 ^ j.val)).toNat:Int):=by decide+kernel
 have:=key ⟨c.toNat,c.toNat_lt⟩ ⟨j,hj⟩;simpa using this
theorem mx3 (b:List UInt8) (i:Nat):(Tb.nw1 b i).length=b.length:=by simp[Tb.nw1]
theorem xw5 (c:UInt8) {j:Nat} (hj:j < 8):bits .or .u8 (c.toNat:Int) (IntKind.u8.wrap (2 ^ j))=((c|||UInt8.ofNat (2 ^ j)).toNat:Int):=by
 rw[<-or_bit c hj]
 congr 1
 have e:j=0\/j=1\/j=2\/j=3\/j=4\/j=5\/j=6\/j=7:=o_
 rcases e with rfl|rfl|rfl|rfl|rfl|rfl|rfl|rfl<;>decide
theorem BlAt.set {w:World} {f g:Nat} {B:List UInt8} {x q j:Nat} {bx:UInt8} (h:BlAt w f g B) (z:q=x / 8) (hj:j=x % 8) (C:B[q]?=some bx):
  BlAt (w.drew.setCell (g,q) (.int .u8 ((bx|||UInt8.ofNat (2 ^ j)).toNat:Int))) f g (Tb.nw1 B x)/\Chg [g] w (w.drew.setCell (g,q) (.int .u8 ((bx|||UInt8.ofNat (2 ^ j)).toNat:Int))):=by
 have o:=tq w.drew ⟨g,q,none⟩ (.int .u8 ((bx|||UInt8.ofNat (2 ^ j)).toNat:Int));refine⟨⟨?_,?_,h.ne⟩,((Chg.refl [g] w).drew).trans o (fun g E=>.inl E)⟩
 ·rw[mx3]
  exact h.box.drew.chg o (by simpa using h.ne)
 ·have:=h.bits.drew.store q (.int .u8 ((bx|||UInt8.ofNat (2 ^ j)).toNat:Int))
  have e:(bts B).set q (.int .u8 ((bx|||UInt8.ofNat (2 ^ j)).toNat:Int))=bts (Tb.nw1 B x):=by
   unfold Tb.nw1 bts;rw[ck_,<-z,<-hj,t_,C];rfl
  rw[<-e];exact this
theorem lj4 (b:List UInt8) (i:Nat):(Tb.nw1 b i).length=b.length:=by simp[Tb.nw1]
theorem dz2 (l:List Nat):∀b:List UInt8,(l.foldl Tb.nw1 b).length=b.length:=by
 induction l with
 |nil=>exact fun _=>rfl
 |cons a l o=>exact fun b=>by rw[aX_,o,lj4]
theorem dw4 (b key:List UInt8):(Tb.addKey b key).length=b.length:=dz2 _ _
theorem xy4 (f g:Nat) (b:List UInt8) (K:Option Addr) (m c:Nat) (key:List UInt8) (w:World) (h:BlAt w f g b) (b0:0 < b.length) (b1:b.length<=3000) (hm:m<=1000) (hr:Row w w K m 1 (bts key)):
  Calls prog 259 #[f,.slice K m c] w fun e w'=>e=.returned (.tuple #[])/\BlAt w' f g (Tb.addKey b key)/\Chg [g] w w':=by
 have hp:=bw3 f g b K m c key w h b0 b1 hm hr;obtain⟨P,hP⟩:=n_ (Tb.places b.length key);have e6:P.length=7:=by rw[hP];simp[Tb.places]
 have a2:∀x∈P,x < b.length *8:=fun x hx=>by
  rw[hP]at hx;simp only[Tb.places,aP_]at hx;obtain⟨i,_,rfl⟩:=hx;exact bB_ _ o_
 unfold Tb.addKey;rw[<-hP]at hp ⊢;have e7:=h.bits.lt;have HP:=H_ hp;have H:=H_ h;have b6:=H_ a2;clear hp hP hr h a2;go_enter func259,ntmps259;go_wp2_with fail;refine HP.mono ?_;rintro e w1 ⟨A1,c1,rfl,J,O⟩;obtain⟨A9,c9,hv,f0,f1,C⟩:=ay J;injection hv with e1 e2 e3;subst e1 e3;have E:Row w1 w1 A1 7 1 (i64v P):=Row.own J;have HR:=H_ E;have HL:=H_ C;have H1:=H_ (H.below O);have b7:=H_ O;clear J E C O HP;go_wp2_with fail
 go_loopw [10] (fun i wr=>∃k:Nat,k<=7/\i=.int .i64 k/\Hid (BlAt wr f g ((P.take k).foldl Tb.nw1 b)/\Chg [g] w1 wr)) (fun i _=>7 - (intOf i).toNat)
 case atStart=>exact⟨0,o_,rfl,H_ ⟨H1,Chg.refl _ _⟩⟩
 case round=>
  obtain⟨k,f7,rfl,HK⟩:=hrel
  by_cases hk:k < 7
  ·have b8:(k:Int) < 7:=o_
   have f8:IntKind.i64.wrap (k:Int)=(k:Int):=M_ _ o_;have b9:=HK.2.row HR.out l_ (fun a ha hm=>by
    have:=(HL.out a ha).1;have h2:=c_.1 hm;omega)
   have d0:P[k]?=some P[k]:=j_ o_;obtain⟨a,ha,f9,hc⟩:=fx1 b9 (show (i64v P)[k]?=some (.int .i64 ((P[k]:Nat):Int)) by unfold i64v;rw[b5_,d0];rfl);have g4:=b6.out _ (w_ (show k < P.length by omega));have a5:P.take (k+1)=P.take k++[P[k]]:=v_ o_;generalize P[k]=x at *;obtain⟨B,hB⟩:=n_ ((P.take k).foldl Tb.nw1 b);have Q:B.length=b.length:=by rw[hB];exact dz2 _ _
   have o:=HK.1;rw[<-hB]at o;subst ha;have c1:=o.box.c1;obtain⟨q,hq⟩:=n_ (x / 8);obtain⟨j,hj⟩:=n_ (x % 8);have U:q < B.length:=o_
   have cg:=o.bits.cell q;obtain⟨bx,a0⟩:∃bx,B[q]?=some bx:=⟨_,j_ U⟩;rw[px4,a0]at cg;have zg:=o.bits.free q;rw[Q]at c1;have g':(x:Int) / 8=(q:Int):=o_
   have d':(q:Int) < (b.length:Int):=o_
   have e0:q < b.length:=o_
   have d1:(x:Int) % 8=(j:Int):=o_
   have d2:(x:Int).tmod 8=(j:Int):=by rw[bE_ o_];omega
   have d3:j < 8:=o_
   have h0:IntKind.i64.wrap (q:Int)=(q:Int):=M_ _ o_;have h6:IntKind.i64.wrap (j:Int)=(j:Int):=M_ _ o_;have e4:(j:Int) < 8:=o_
   have a6:=xw5 bx d3;have a7:=H_ (d_ hq hj);have d4:=H_ a6;clear a6 hq hj;have HB:=H_ (d_ hB (d_ Q (d_ a0 U)));have d5:=H_ o;have HT:=H_ a5;clear hB Q a0 U o a5;have d1:(x:Int) % 8=((x % 8:Nat):Int):=o_
   have d2:(x:Int).tmod 8=((x % 8:Nat):Int):=by rw[bE_ o_];omega
   go_wp2_with fail
   go_still_tail 13,(by kernel_rfl)
   change wpList _ _ _ _ _ (World.drew wr);have a1:=d5.set a7.1 a7.2 HB.2.2.1;rw[<-d4.out]at a1;have a8:=H_ a1;clear a1;go_wp2;go_roundw
   case rel=>exact⟨k+1,o_,by go_num,H_ ⟨by rw[HT.out,aS_,<-HB.1];exact a8.1,HK.2.trans a8.2 (fun g hg=>.inl hg)⟩⟩
   case measure=>simp[intOf];omega
  ·have b8:((k:Int) < 7)=False:=eq_false o_
   have I:P.take k=P:=i_ o_;have z:=HK.out;rw[I]at z;have HF:=H_ (d_ z.1 ((Chg.of_below b7.out [g]).trans z.2 (fun g hg=>.inl hg)));clear z HK I;go_wp2;exact bodyPost_end (v:=.tuple #[]) (by simp[results,go_sem]) rfl ⟨rfl,HF⟩
theorem fy6 {w:World} {f g:Nat} {b:List UInt8} (h:BlAt w f g b):Row w w (some ⟨g,0,none⟩) b.length 1 (bts b):=by
 refine⟨by rw[uq,a6_],fun j hj=>⟨_,rfl,h.bits.lt,?_⟩⟩;rw[show ((⟨g,0,none⟩:Addr).add j)=⟨g,j,none⟩ by rw[Addr.add_lit,am_],h.bits.cell];exact j_ hj
theorem BlAt.app {w w':World} {f g:Nat} {b:List UInt8} {r:Option Nat} (h:BlAt w f g b) (o:w.grownBy w' r) (z:some f≠r/\some g≠r):BlAt w' f g b:=⟨h.box.bq2 o z.1,h.bits.bq2 o z.2,h.ne⟩
theorem uy5 {w w1 o:World} {f g n base:Nat} {b:List UInt8} {v:Value} {xs:List Value} {e:TypeId} (C:o.ownsRow base e 1 v n xs) (H:Below w1 w1 o) (h:BlAt w f g b) (I:(w:Nat)<=base:=by omega):some f≠v.ownBlock/\some g≠v.ownBlock:=by
 have h1:=h.box.lt;have h2:=h.bits.lt
 rcases C.2 with ⟨rfl,_⟩|⟨z,cap,cur,rfl,E,_⟩
 ·exact⟨(by intro e;cases e),(by intro e;cases e)⟩
 ·refine⟨fun e=>?_,fun e=>?_⟩
  ·have e:f=z:=ah_ e
   omega
  ·have e:g=z:=ah_ e
   omega
def blb (b:List UInt8):List UInt8:=Pn.put 7++(Pn.put b.length++b)
theorem kz19 {P S a oi v} (h:Hv P S a oi v:=by intro w o;(have c0:=o.box.c0;have c1:=o.box.c1);go_simp;try (with_reducible rfl)):Hv P S a oi v:=h
theorem tk3 (f g:Nat) (b:List UInt8) (w:World) (h:BlAt w f g b) (b5:b.length<=3000):
  Calls prog 219 #[f] w fun e w'=>∃A' M c',e=.returned (.slice A' M c')/\w'.ownsRow w.heap.size 5 1 (.slice A' M c') M (bts (blb b))/\M<=c'/\c'<=maxLen/\Below w.heap.size w w':=by
 obtain⟨i0,a1,a2,a4,a5⟩:=info_parts gv1;have E:=put_any none 0 0 [] 7 (by decide) w.drew o_ Row.nil_;simp only[am_,D_]at E;have b7:∀w,(convert 3 22 (.int .i64 b.length)).run prog w=.ok (.int .u64 b.length) w:=by
  intro w;have:(b.length:Int) % 18446744073709551616=(b.length:Int):=o_
  simp[go_sem,convert,IntKind.wrap_u64,this]
 have l7:(Pn.put 7).length=1:=by decide
 rw[l7,show ((7:Nat):Int)=IntKind.u64.wrap 7 from by decide]at E;have b8:=Pn.jq b.length;have a6:=H_ E;have H:=H_ h;clear E h l7;go_enter func219,ntmps219;go_wp2_with fail;refine wp_region_held_drew (S:=fun w'=>BlAt w' f g b) rfl (H.below (ax b0_)) (fun o=>?_);refine w_v 0 o ?_ (k:=kz19);go_simp;refine w_v 1 o ?_ (k:=kz19);go_simp;refine w_v 2 o ?_ (k:=kz19);go_simp;refine w_v 3 o ?_ (k:=kz19);go_simp;refine w_v 4 o ?_ (k:=kz19);go_simp;refine w_v 6 o ?_ (k:=kz19);go_simp;refine w_v 7 o ?_ (k:=kz19);go_simp;refine w_v 8 o ?_ (k:=kz19);go_simp;refine w_v 9 o ?_ (k:=kz19);go_simp;refine w_v 10 o ?_ (k:=kz19);go_simp;refine w_v 11 o ?_ (k:=kz19);go_simp;refine w_v 13 o ?_ (k:=kz19);go_simp;refine w_v 14 o ?_ (k:=kz19);go_simp;refine w_v 15 o ?_ (k:=kz19);go_simp;refine w_v 16 o ?_ (k:=kz19);go_simp;refine w_r 5 fun K O=>?_;go_simp
 refine m_ a6 ?_
 (rintro e w1 ⟨A1,c1,rfl,a7,b',c9,a8⟩;have z:=(ax (Below.refl w.heap.size w)).trans a8;have a9:=put_any A1 1 c1 (Pn.put 7) b.length o_ w1 o_ (Row.own a7))
 go_simp;refine O.out _ _ (H.below z) ?_;clear o O K;intro o;go_simp;refine w_r 12 fun K O=>?_;go_simp
 with_reducible refine a9.mono ?_
 (rintro e w2 ⟨A2,c2,rfl,a',d1,d2,U⟩;have C:=z.trans (U.mono z.size);have I:=own_base a' z.size;have J:=H.below C;have a0:=fy6 J)
 go_simp;refine O.out _ _ J ?_;clear o O K;intro o;go_simp;refine w_r 17 fun K O=>?_;refine ev2 rfl (.tmp 15) (.tmp 19) _ rfl w.heap.size 5 i0 _ 1 1 underlying77 a1 a2 a4 a5 rfl o_ C.size (.slice A2 (1+(Pn.put b.length).length) c2) (1+(Pn.put b.length).length) _ rfl I w2 _ b.length b.length (bts b) rfl a0 (by1 _) (1+(Pn.put b.length).length+b.length) (bts (blb b)) rfl (by simp[bts,blb]) (by unfold maxLen;omega) o_ ?_;intro A3 c3 w3 z1 z2 z3 z4 z5;have Q:=gy2 C I z2 C.size;refine O.out _ _ (BlAt.app J z2 (uy5 I U H)) ?_;clear o O K;intro o;go_simp;refine w_v 18 o ?_ (k:=kz19);go_simp;refine w_d ?_;clear o;have HF:=H_ (d_ z1 (d_ z3 (d_ z4 Q)));clear z1 z2 z5 Q I J a0;go_wp2;go_ret;exact⟨A3,_,c3,rfl,HF⟩
theorem zk3 (l:List It):∀b:List UInt8,(l.foldl (fun b a=>Tb.addKey b a.key) b).length=b.length:=by
 induction l with
 |nil=>exact fun _=>rfl
 |cons a l o=>exact fun b=>by rw[aX_,o,dw4]
theorem nv3 (L:Option Addr) (m d:Nat) (l:List It) (w:World) (hm:m<=2000) (hq:Row w w L m 5 (itc l)) (hk:∀x∈l,x.ok=true):
  Calls prog 218 #[.slice L m d] w fun e w'=>∃f g,e=.returned (.pointer (some ⟨f,0,none⟩))/\BlAt w' f g (Tb.bits l)/\(w:Nat)<=f/\(w:Nat)<=g/\Below w w w':=by
 have b7:=hq.yw;have J:=vk4 m w hm;obtain⟨E,C⟩:=n_ (List.replicate (Tb.nz2 m) (0:UInt8));have U:0 < E.length/\E.length<=3000:=by rw[C,b7_];unfold Tb.nz2;omega
 have a0:Tb.bits l=l.foldl (fun b a=>Tb.addKey b a.key) E:=by unfold Tb.bits;rw[b7,C]
 rw[<-C]at J;rw[a0];have a1:=H_ J;have HK:=H_ hk;clear J hk C a0;go_enter func218,ntmps218;go_wp2_with fail;refine a1.mono ?_;rintro e w1 ⟨f,g,rfl,h1,hf,hg,z⟩;have HH:=H_ (d_ h1 (d_ hf (d_ hg z)));clear h1 hf hg z a1;go_wp2_with fail
 go_loopw [15] (fun i wr=>∃k:Nat,k<=m/\i=.int .i64 k/\Hid (BlAt wr f g ((l.take k).foldl (fun b a=>Tb.addKey b a.key) E)/\Below w w wr)) (fun i _=>m - (intOf i).toNat)
 case atStart=>exact⟨0,o_,rfl,H_ ⟨HH.1,HH.2.2.2⟩⟩
 case round=>
  obtain⟨k,e4,rfl,HB⟩:=hrel
  by_cases b8:k < m
  ·obtain⟨p,hl,rfl,e5,d0,d1,d2,d3,d4⟩:=(hq.below HB.2).it b8
   have b9:(k:Int) < (m:Int):=o_
   have e6:IntKind.i64.wrap (k:Int)=(k:Int):=M_ _ o_;have b':=HK.out _ (w_ hl);have a4:l.take (k+1)=l.take k++[l[k]]:=v_ hl;generalize l[k]=x at *;obtain⟨B,hB⟩:=n_ ((l.take k).foldl (fun b a=>Tb.addKey b a.key) E);have a5:B.length=E.length:=by rw[hB];exact zk3 _ _
   have z:=HB.out;rw[<-hB]at z;have hU:=b_ wr (.cells #[x.s,x.k,[x.t],[x.v],x.x] 33);have O:=fun W=>nz4 x b' W;unfold It.val at O;have a6:=H_ O;have HU:=H_ hU;have o:=H_ (d_ z (d_ hB a5));have HT:=H_ a4;clear O hU z hB a5 a4;go_wp2_with fail;refine(a6.out _).mono ?_;rintro e w2 ⟨A2,c2,rfl,a7,_,_,a8⟩;have Q:=az HU.out a8;have a9:=xy4 f g B A2 10 c2 x.key w2 (o.1.1.below Q) (by rw[o.2.2];exact U.1) (by rw[o.2.2];exact U.2) o_ a7;have a':=H_ a9;have b1:=H_ Q;clear a9 Q a7 a8 a6 HU;go_wp2_with fail;refine a'.mono ?_;rintro e w3 ⟨rfl,q1,q2⟩;have H:Below w w w3:=by
    have h3:=o.1.2.trans (b1.mono o.1.2.size);exact h3.trans (q2.below h3.size (fun x hx=>by rw[c_.1 hx];exact HH.2.2.1))
   have b2:(l.take (k+1)).foldl (fun b a=>Tb.addKey b a.key) E=Tb.addKey B x.key:=by rw[HT.out,aS_,<-o.2.1];rfl
   have HF:=H_ (d_ (b2▸q1:BlAt w3 f g ((l.take (k+1)).foldl (fun b a=>Tb.addKey b a.key) E)) H);clear q1 q2 H b2 a' b1;go_wp2;go_roundw
   case rel=>exact⟨k+1,o_,by go_num,HF⟩
   case measure=>simp[intOf];omega
  ·have b9:((k:Int) < (m:Int))=False:=eq_false o_
   have I:l.take k=l:=i_ o_;have z:=HB.out;rw[I]at z;have HF:=H_ z;clear z HB I;go_wp2;go_ret;exact⟨f,g,rfl,HF.1,HH.2.1,HH.2.2.1,HF.2⟩
def It.zero:It:=⟨0,0,0,0,0⟩
theorem kk5 (w:World):Calls prog 88 #[] w fun e w'=>∃L ns,e=.returned (.pointer (some ⟨L,0,none⟩))/\SkAt w' L ns/\its ns=[]/\Below w w w'/\∀g∈skF L ns,(w:Nat)<=g:=by
 have z:=fun W=>aw3 It.zero 6 W o_ o_;unfold It.val at z;have E:=H_ z;clear z;go_enter func88,ntmps88;go_wp2_with fail;refine(E.out _).mono ?_;rintro e w1 ⟨b,tb,rfl,h1,h2,h3,h4,h5,C⟩;go_wp2;go_ret;have H:=h1.alloc (.cells #[b,.int .i64 0] 221);have I:=h2.alloc (.cells #[b,.int .i64 0] 221);have J:=C.size;have lb:=h1.lt;have lt:=h2.lt;refine⟨(w1:Nat),[⟨It.zero,b,tb,6,6⟩],rfl,⟨⟨fun n o=>?_,fun i n hi=>?_,fun n o=>?_,?_⟩,⟨_,[],rfl,rfl,BoxO.new _ _ _⟩,?_,fun n o=>?_,bi_⟩,rfl,C.alloc J _,fun g O=>?_⟩
 ·rw[c_.1 o]
  exact H
 ·cases i with
  |zero=>
   simp only[gE0,aD_]at hi;subst hi;exact⟨_,I,rfl,fun l Q=>by rw[List.getElem?_replicate,if_pos Q];rfl⟩
  |succ i=>simp at hi
 ·rw[c_.1 o]
  exact⟨B_ _,B_ _⟩
 ·simpa using h3
 ·simp
  omega
 ·rw[c_.1 o]
  exact(by omega:1<=6)
 ·simp[skF]at O
  omega
def wk2 (w:World) (L:Nat) (ns:List Nd) (R:List It) (e:Ending) (w':World):Prop:=∃bb ns',e=.returned (.tuple #[.bool bb,.int .i64 0])/\SkAt w' L ns'/\its ns'=R/\Chg (skF L ns) w w'/\∀g∈skF L ns',g∈skF L ns\/(w:Nat)<=g
theorem qj3 {ns:List Nd} (h:∀n∈ns,1<=n.h) (p:Nat):nxb 0 (ns.drop p)=(ns[p]?).map (·.b):=by
 have o:(ns.drop p)[0]?=ns[p]?:=by simp
 cases e:ns.drop p with
 |nil=>rw[e]at o;rw[<-o];rfl
 |cons a r=>
  rw[e]at o;have z:a∈ns:=cd_ (by rw[e];simp:a∈ns.drop p);have:=h a z;rw[<-o];unfold nxb nxt;have C:decide (0 < a.h)=true:=decide_eq_true o_;simp[C]
theorem Pred.insert {A R:List Nd} {n:Nd} {l q j:Nat} (h:Pred (A++R) l q j) (o:q=A.length):Pred (A++n::R) l A.length j:=by
 subst o;have e:∀i,i < A.length->(A++n::R)[i]?=(A++R)[i]?:=fun i hi=>by rw[K_ hi,K_ hi]
 exact⟨h.lt,by obtain⟨m,h1,h2⟩:=h.on;exact⟨m,(e j h.lt).trans h1,h2⟩,fun i m h1 h2 h3=>h.last i m h1 h2 ((e i h2).symm.trans h3)⟩
theorem gj6 (o z C E H u5:Value) {k:Nat} (I:k < 6):∃u,[o,z,C,E,H,u5][k]?=some u/\(k=0/\u=o\/k=1/\u=z\/k=2/\u=C\/k=3/\u=E\/k=4/\u=H\/k=5/\u=u5):=by
 have e:k=0\/k=1\/k=2\/k=3\/k=4\/k=5:=o_
 rcases e with rfl|rfl|rfl|rfl|rfl|rfl<;>simp
theorem qv5 (f:Nat->Value) {k:Nat} (o:k < 6):[f 0,f 1,f 2,f 3,f 4,f 5][k]?=some (f k):=by
 have e:k=0\/k=1\/k=2\/k=3\/k=4\/k=5:=o_
 rcases e with rfl|rfl|rfl|rfl|rfl|rfl<;>rfl
theorem kz6 {P S a oi v} (h:Hv P S a oi v:=by intro w o;skip;go_simp;try (with_reducible rfl)):Hv P S a oi v:=h
theorem kz7 {P S a oi v} (h:Hv P S a oi v:=by intro w o;(obtain⟨⟨y0,y1,y2,y3,y4⟩,x0,x1,x2,x3,x4⟩:=KC.out w o);go_simp;try (with_reducible rfl)):Hv P S a oi v:=h
theorem pj4 (L h:Nat) (ns:List Nd) (x:It) (w:World) (hs:SkAt w L ns) (hk:x.ok=true) (h1:1<=h) (h6:h<=6) (t':ns.length<=1000000):
  Calls prog 102 #[L,x.val,(h:Int)] w (wk2 w L ns (wput (its ns) x)):=by
 have i3:=fun W=>tz1 x W;simp only[hk]at i3;have l2:=fun W (hW:Below w w W)=>ey4 L (pos (its ns) x+1) ns x W (hs.below hW) rfl;have o7:=hs.lt;unfold It.val at i3 l2;have B0:(1:Int)<=(h:Int):=o_
 have a1:(h:Int)<=6:=o_
 have i4:((h:Int) < 1)=False:=eq_false o_;have B1:(6 < (h:Int))=False:=eq_false o_;have o8:=b_ w (.cells #[x.s,x.k,[x.t],[x.v],x.x] 33);have H:BoxO (w.alloc (.cells #[x.s,x.k,[x.t],[x.v],x.x] 33)) 33 (w:Nat) x.cells:=BoxO.new w #[x.s,x.k,[x.t],[x.v],x.x] 33;generalize hV:w.alloc (.cells #[x.s,x.k,[x.t],[x.v],x.x] 33)=V at *;have b0:=H.cell 0;have b1:=H.cell 1;have b2:=H.cell 2;have b3:=H.cell 3;have b4:=H.cell 4;simp only[It.cells,gE0,gE1]at b0 b1 b2 b3 b4;have o9:=H_ i3;have o':=H_ l2;have l3:=H_ o8;have p0:=H_ H;have l4:=H_ o7;clear i3 l2 H o8 o7;unfold It.val;go_enter func102,ntmps102;go_wp2_with fail;refine(o9.out _).mono ?_;rintro e w2 ⟨rfl,i4⟩;have a2:=p0.below i4;have b0:=a2.cell 0;have b1:=a2.cell 1;have b2:=a2.cell 2;have b3:=a2.cell 3;have b4:=a2.cell 4;simp only[It.cells,gE0,gE1]at b0 b1 b2 b3 b4;have p1:=l3.trans (i4.mono l3.size);have i5:=H_ p1;have k3:=H_ a2;clear i4 a2 p1 o9 hV l3 p0;go_wp2_with fail;refine(o'.out _ i5).mono ?_;rintro e w3 ⟨J,hJ,rfl,l5⟩;have b7:=i5.trans (l5.mono i5.size);have e6:=k3.below l5;have O:=BoxO.new w3 #[.pointer none,.pointer none,.pointer none,.pointer none,.pointer none,.pointer none] 234;have i6:=b7.alloc b7.size (.cells #[.pointer none,.pointer none,.pointer none,.pointer none,.pointer none,.pointer none] 234);have k4:=e6.alloc (.cells #[.pointer none,.pointer none,.pointer none,.pointer none,.pointer none,.pointer none] 234);generalize hU:w3.alloc (.cells #[.pointer none,.pointer none,.pointer none,.pointer none,.pointer none,.pointer none] 234)=U at *;have e7:Chg [(w3:Nat)] U ((((((U.setCell w3 (.pointer (some ⟨bk ns (J 0),0,none⟩))).setCell (w3,1) (.pointer (some ⟨bk ns (J 1),0,none⟩))).setCell (w3,2) (.pointer (some ⟨bk ns (J 2),0,none⟩))).setCell (w3,3) (.pointer (some ⟨bk ns (J 3),0,none⟩))).setCell (w3,4) (.pointer (some ⟨bk ns (J 4),0,none⟩))).setCell (w3,5) (.pointer (some ⟨bk ns (J 5),0,none⟩))):=((((((Chg.refl _ U).setCell _ (.inl s_)).setCell _ (.inl s_)).setCell _ (.inl s_)).setCell _ (.inl s_)).setCell _ (.inl s_)).setCell _ (.inl s_);have a4:=(((((O.store 0 (.pointer (some ⟨bk ns (J 0),0,none⟩))).store 1 (.pointer (some ⟨bk ns (J 1),0,none⟩))).store 2 (.pointer (some ⟨bk ns (J 2),0,none⟩))).store 3 (.pointer (some ⟨bk ns (J 3),0,none⟩))).store 4 (.pointer (some ⟨bk ns (J 4),0,none⟩))).store 5 (.pointer (some ⟨bk ns (J 5),0,none⟩));simp only[T_,Q_]at a4;have HP:=H_ a4;have u0:=H_ e7;have o0:=O.c0;have o1:=O.c1;have o2:=O.c2;have o3:=O.c3;have o4:=O.c4;have o5:=O.c5;have f0:=O.free 0;have f1:=O.free 1;have f2:=O.free 2;have f3:=O.free 3;have f4:=O.free 4;have f5:=O.free 5;have p2:=hs.below i6;have i7:∀g∈skF L ns,g∉[(w3:Nat)]:=fun g I=>by have:=l4.out g I;have:=b7.size;simp;omega
 have i8:=p2.chg e7 i7;have k5:=k4.chg e7 (by have:=e6.lt;simp;omega);have p3:=i6.trans (e7.below i6.size (fun g I=>by rw[c_.1 I];exact b7.size));generalize hY:((((((U.setCell w3 (.pointer (some ⟨bk ns (J 0),0,none⟩))).setCell (w3,1) (.pointer (some ⟨bk ns (J 1),0,none⟩))).setCell (w3,2) (.pointer (some ⟨bk ns (J 2),0,none⟩))).setCell (w3,3) (.pointer (some ⟨bk ns (J 3),0,none⟩))).setCell (w3,4) (.pointer (some ⟨bk ns (J 4),0,none⟩))).setCell (w3,5) (.pointer (some ⟨bk ns (J 5),0,none⟩)))=Y at *;have y0:=a4.c0;obtain⟨n0,l6,k6⟩:=(hJ 0 o_).on;have l7:pos (its ns) x+1<=ns.length:=by
  obtain⟨hd,tl,i9,_⟩:=hs.head;have h1:=dy3 (its ns) x;have h2:(its ns).length+1=ns.length:=by rw[i9];simp[its]
  omega
 have l8:=(hJ 0 o_).low l7 hs.tall;obtain⟨n5,⟨nl,nf⟩,nc,B5⟩:=i8.core.look l6 k6;rw[l8]at nl;rw[<-zz4 l6]at n5;have B6:(0:Int) < (n0.c:Int):=o_
 have b8:=gq1 n0.tb 0 _ Y nl (by have:=i8.core.ptr 0 (J 0+1);rwa [l8]at this);obtain⟨be,l9⟩:=n_ (nxb 0 (ns.drop (pos (its ns) x+1)));rw[<-l9]at b8;have i':=H_ b8;have p6:=H_ l9;have l':=H_ i8;have e9:=H_ k5;have m0:=H_ p3;have u6:=H_ b7.size;have p7:=H_ a4;have HJ:=H_ hJ;clear b8 l9 i8 k5 p3 a4 p2 e7 HP u0 i6 k4 e6 b7 l5 O l6 k6 l8 nl nf i7 hJ i5 k3 o';simp only[pv];go_wp2_with fail;refine i'.mono ?_;rintro e w5 ⟨rfl,rfl⟩;go_upto_region 5 with (fail)
 have e':=p6.trans (qj3 hs.tall _);have j0:∀E,ns[pos (its ns) x+1]?=some E->∃hp:pos (its ns) x < (its ns).length,(its ns)[pos (its ns) x]=E.x:=fun E h3=>by
  have:=vq2 (ns:=ns) (pos (its ns) x);rw[h3]at this;obtain⟨a,b⟩:=C_.1 this;exact⟨a,b⟩
 have j2:ns[pos (its ns) x+1]?=none->¬pos (its ns) x < (its ns).length:=fun h3 h4=>by
  have:=vq2 (ns:=ns) (pos (its ns) x);rw[h3,j_ h4]at this
  cases this
 obtain⟨l,hl⟩:=n_ (its ns);have m1:=hs.rises;rw[<-hl]at e' j0 j2 m1;obtain⟨sm,p8⟩:=n_ (l.any (fun y=>It.same y x));obtain⟨o3,m2⟩:=n_ (ns[pos l x+1]?);rw[<-m2]at e' j0 j2;have HL:=H_ hl;have m3:=H_ m2;have f6:=H_ p8;have p9:=H_ j0;have p':=H_ j2;have a5:=H_ m1;have HS:=H_ hs;subst e';clear hl m2 p8 j0 j2 m1 hs i' hY
 go_cut [43] (fun c wx=>c=.bool sm/\Below w5 w5 wx)
 case first=>
  cases o3 with
  |none=>
   have hf:sm=false:=f6.trans (kx2 a5.out x (p'.out rfl));simp only[cH_];refine w_h w5 fun o=>?_;refine w_v 0 o ?_ (k:=kz6);go_simp;refine w_v 1 o ?_ (k:=kz6);go_simp;refine w_v 2 o ?_ (k:=kz6);go_simp;refine wpT0 (i:=3) o ?_;go_simp;refine wpT0 (i:=4) o ?_;go_simp;refine wpT0 (i:=5) o ?_;go_simp;refine wpT0 (i:=6) o ?_;go_simp;refine wpT0 (i:=7) o ?_;go_simp;refine wpT0 (i:=8) o ?_;go_simp;refine w_v 9 o ?_ (k:=kz6);go_simp;refine w_d ?_;go_wp2_with fail
   go_meet
   exact⟨by rw[hf],o⟩
  |some E=>
   obtain⟨hp,f7⟩:=p9.out E rfl;have a9:=fun W=>fw2 E.x x W;have b':=jq3 a5.out x hp;rw[f7]at b';simp only[b',<-f6.out]at a9;have z:=l'.core.node E (u_ (by rw[HL.out]at m3;exact m3.symm));generalize E.x=y at *;have f8:∀w',Below w5 w5 w'->(w'.cell? E.b=some (.int .i64 y.s)/\w'.cell? (E.b,1)=some (.int .i64 y.k)/\w'.cell? (E.b,2)=some (.int .u64 y.t)/\w'.cell? (E.b,3)=some (.int .u64 y.v)/\w'.cell? (E.b,4)=some (.int .i64 y.x))/\(w'.cell? (w:Nat)=some (.int .i64 x.s)/\w'.cell? (w,1)=some (.int .i64 x.k)/\w'.cell? (w,2)=some (.int .u64 x.t)/\w'.cell? (w,3)=some (.int .u64 x.v)/\w'.cell? (w,4)=some (.int .i64 x.x)):=fun w' hb=>by
    have e1:=z.below hb;have e2:=e9.below hb;exact⟨⟨e1.cell 0,e1.cell 1,e1.cell 2,e1.cell 3,e1.cell 4⟩,e2.cell 0,e2.cell 1,e2.cell 2,e2.cell 3,e2.cell 4⟩
   unfold It.val at a9;have v1:=H_ a9;have KC:=H_ f8;clear a9 f8 z b' f7 hp;simp only[aR_];refine w_h w5 fun o=>?_;refine w_v 0 o ?_ (k:=kz7);go_simp;refine w_v 1 o ?_ (k:=kz7);go_simp;refine w_v 2 o ?_ (k:=kz7);go_simp;refine w_v 3 o ?_ (k:=kz7);go_simp;refine w_v 4 o ?_ (k:=kz7);go_simp;refine w_v 5 o ?_ (k:=kz7);go_simp;refine w_v 6 o ?_ (k:=kz7);go_simp;refine w_v 7 o ?_ (k:=kz7);go_simp;refine w_r 8 fun K hK=>?_;go_simp
   with_reducible refine(v1.out _).mono ?_
   rintro e w6 ⟨rfl,a1⟩;go_simp;refine hK.out _ _ (o.trans (a1.mono o.size)) ?_;clear o hK K;intro o;go_simp;refine w_v 9 o ?_ (k:=kz7);go_simp;refine w_d ?_;go_wp2_with fail
   go_meet
   exact⟨rfl,o⟩
 case rest=>
  obtain⟨rfl,f9⟩:=hcut;have g4:=l'.below f9;have Q:=e9.below f9;have j3:=m0.trans (f9.mono m0.size);have b0:=Q.cell 0;have b1:=Q.cell 1;have b2:=Q.cell 2;have b3:=Q.cell 3;have b4:=Q.cell 4;simp only[It.cells,gE0,gE1]at b0 b1 b2 b3 b4;have g':=p7.below f9;clear p6 y0 n5 f9 l' e9 m0 p7
  cases sm with
  |true=>
   obtain⟨E,rfl⟩:∃E,o3=some E:=by
    cases o3 with
    |none=>have:=f6.trans (kx2 a5.out x (p'.out rfl));cases this
    |some E=>exact⟨E,rfl⟩
   obtain⟨hp,f7⟩:=p9.out E rfl;have a9:It.same l[pos l x] x=true:=(jq3 a5.out x hp).trans f6.symm;obtain⟨a6,a7⟩:=ey3 a5.out x hp a9;rw[f7]at a6;have m4:=m3.symm;have z:=g4.core.node E (u_ m4);have h0:=fun W=>ik2 x E.x W;obtain⟨y,hy⟩:=n_ E.x;rw[<-hy]at h0 z a6;have f8:∀w',Below wc wc w'->(w'.cell? E.b=some (.int .i64 y.s)/\w'.cell? (E.b,1)=some (.int .i64 y.k)/\w'.cell? (E.b,2)=some (.int .u64 y.t)/\w'.cell? (E.b,3)=some (.int .u64 y.v)/\w'.cell? (E.b,4)=some (.int .i64 y.x))/\(w'.cell? (w:Nat)=some (.int .i64 x.s)/\w'.cell? (w,1)=some (.int .i64 x.k)/\w'.cell? (w,2)=some (.int .u64 x.t)/\w'.cell? (w,3)=some (.int .u64 x.v)/\w'.cell? (w,4)=some (.int .i64 x.x)):=fun w' hb=>by
    have e1:=z.below hb;have e2:=Q.below hb;exact⟨⟨e1.cell 0,e1.cell 1,e1.cell 2,e1.cell 3,e1.cell 4⟩,e2.cell 0,e2.cell 1,e2.cell 2,e2.cell 3,e2.cell 4⟩
   unfold It.val at h0;obtain⟨wb,q9⟩:=n_ (x.wins y);rw[<-q9]at h0 a6;have q':=H_ h0;have KC:=H_ f8;have r0:=H_ m4;have v3:=H_ z;have d6:=H_ g4;have j4:=H_ a6;have j5:=H_ a7;have d7:=H_ j3;have r1:=H_ Q;have HY:=H_ hy;clear h0 f8 m4 z g4 a6 a7 j3 Q hy g' a9 f7 hp q9 b0 b1 b2 b3 b4;simp only[aR_];go_upto_region 6 with (fail)
   refine w_h wc fun o=>?_;refine w_v 0 o ?_ (k:=kz7);go_simp;refine w_v 1 o ?_ (k:=kz7);go_simp;refine w_v 2 o ?_ (k:=kz7);go_simp;refine w_v 3 o ?_ (k:=kz7);go_simp;refine w_v 4 o ?_ (k:=kz7);go_simp;refine w_r 5 fun K hK=>?_;go_simp
   with_reducible refine(q'.out _).mono ?_
   rintro e w6 ⟨rfl,a1⟩;go_simp;refine hK.out _ _ (o.trans (a1.mono o.size)) ?_;clear o hK K;intro o;go_simp;refine w_v 6 o ?_ (k:=kz7);go_simp;refine w_d ?_;have a':=o;clear o KC q';obtain⟨X,r2⟩:=n_ w6;rw[<-r2]at a' ⊢;clear r2 a1;have z:=v3.below a';have j6:=d6.below a';have H:=r1.below a';have j7:=d7.trans (a'.mono d7.size)
   cases wb with
   |false=>
    have hR:wput l x=l:=by unfold wput;rw[if_pos];rw[j4.out];rfl
    have HF:=H_ (show wk2 w L ns (wput l x) (.returned (.tuple #[.bool false,.int .i64 0])) X from ⟨false,ns,rfl,j6,by rw[hR];exact HL.symm,Chg.of_below j7 _,fun g I=>.inl I⟩);clear hR j6 H j7 z a';go_wp2;go_ret2;rw[<-HL.out];exact HF
   |true=>
    have e0:=H.cell 0;have e1:=H.cell 1;have e2:=H.cell 2;have e3:=H.cell 3;have e4:=H.cell 4;have d0:=z.cell 0;have d1:=z.cell 1;have d2:=z.cell 2;have d3:=z.cell 3;have d4:=z.cell 4;have q0:=z.free 0;have q1:=z.free 1;have q2:=z.free 2;have q3:=z.free 3;have q4:=z.free 4;have b5:=((((z.store 0 (.int .i64 x.s)).store 1 (.int .i64 x.k)).store 2 (.int .u64 x.t)).store 3 (.int .u64 x.v)).store 4 (.int .i64 x.x);simp only[It.cells,U_,D_,gE0,gE1,T_,Q_]at e0 e1 e2 e3 e4 d0 d1 d2 d3 d4 b5;have m5:Chg [E.b] X (((((X.setCell E.b x.s).setCell (E.b,1) x.k).setCell (E.b,2) (.int .u64 x.t)).setCell (E.b,3) (.int .u64 x.v)).setCell (E.b,4) x.x):=(((((Chg.refl _ X).setCell _ (.inl s_)).setCell _ (.inl s_)).setCell _ (.inl s_)).setCell _ (.inl s_)).setCell _ (.inl s_);have hR:wput l x=l.set (pos l x) x:=by
     unfold wput;rw[if_neg (by rw[j4.out];simp)];exact j5
    obtain⟨z1,z2,z3⟩:=j6.setx (x:=x) (k:=pos l x) r0.out (by rw[<-HL.out,<-j5.out];exact xq1 a5) m5 b5;rw[<-HL.out,<-hR]at z2;have hF:Chg (skF L ns) w _:=(Chg.of_below j7 (skF L ns)).trans m5 (fun g I=>.inl (by
     rw[c_.1 I];exact f_ _ (W_.2 ⟨E,u_ r0,by simp⟩)))
    have HF:=H_ (show wk2 w L ns (wput l x) (.returned (.tuple #[.bool true,.int .i64 0])) _ from ⟨true,_,rfl,z1,z2,hF,fun g I=>.inl (by rw[z3]at I;exact I)⟩);clear hR j6 H j7 z a' b5 m5 z1 z2 z3 hF;go_wp2;go_ret2;rw[<-HL.out];exact HF
  |false=>
   obtain⟨a6,a7⟩:=yx3 a5.out x f6.symm;have A0:pos l x+1<=ns.length:=by rw[HL.out];exact l7
   have ht:=fun W=>aw3 x h W h1 h6;unfold It.val at ht;have HT:=H_ ht;have d6:=H_ g4;have j4:=H_ a6;have j5:=H_ a7;have d7:=H_ j3;have h8:=H_ g';clear ht g4 a6 a7 j3 Q g' l7;go_wp2_with fail;refine(HT.out _).mono ?_;rintro e w6 ⟨b,tb,rfl,k8,r3,r4,a4,r5,a1⟩;obtain⟨A,hA⟩:=n_ (ns.take (pos l x+1));obtain⟨R,hR⟩:=n_ (ns.drop (pos l x+1));have j8:A++R=ns:=by rw[hA,hR];exact ag_ _ _
   have m6:A.length=pos l x+1:=by rw[hA,y_];omega
   have r6:=d7.size;have j9:∀g∈skF L ns,g < (w:Nat):=l4.out;have b6:∀g,(wc:Nat)<=g->g∉(A++R).flatMap fun n=>[n.b,n.tb]:=fun g I hm=>by
    rw[j8]at hm;have:=j9 g (f_ _ hm);omega
   have r7:SkC w6 (A++(⟨x,b,tb,0,h⟩:Nd)::R):=SkC.insert (n:=⟨x,b,tb,0,h⟩) (by rw[j8];exact d6.core.below a1) rfl h6 k8 r3 r4 (b6 b a4) (b6 tb r5);have i7:=(h8.lt:(w3:Nat) < (wc:Nat));have k9:=h8.below a1;obtain⟨hd,tl,i9,r8,r9⟩:=d6.head;have k':=r9.below a1;have r':=d7.trans (a1.mono r6);have s0:(w:Nat)<=(w3:Nat):=u6.out;obtain⟨F,hF⟩:=n_ (tb::ns.flatMap (fun n=>[n.b,n.tb]));have s1:(w3:Nat)∉F:=by
    rw[hF];intro hm
    rcases h_.1 hm with h2|h2
    ·omega
    ·have:=j9 _ (f_ _ h2)
     omega
   have s2:L∉F:=by
    rw[hF];intro hm
    rcases h_.1 hm with h2|h2
    ·have:=j9 L p_
     omega
    ·exact d6.out.out h2
   have v7:=H_ r7;have v8:=H_ k9;have a8:=H_ j8;have m7:=H_ m6;have j':=H_ (d_ i9 r8);have v9:=H_ k';have v':=H_ r';have HF:=H_ hF;have s3:=H_ s1;have w1:=H_ s2;have k0:=H_ (show (w:Nat)<=tb/\(w:Nat)<=b from ⟨o_,o_⟩);have k1:=H_ (show ∀k,k < 6->Pred ns k A.length (J k) from fun k hk=>by rw[m6,HL.out];exact HJ.out k hk);clear r7 k9 j8 m6 i9 r8 k' r9 r' hA hR a1 r6 j9 b6 i7 s0 a4 r5 r3 k8 r4 hF s1 s2 HJ d6 h8 d7 HT;go_wp2_with fail
   go_loopw [60] (fun s wr=>∃k:Nat,k<=h/\s=.int .i64 (k:Int)/\Hid (SkC wr (A++(⟨x,b,tb,k,h⟩:Nd)::R)/\Chg F w6 wr)) (fun s _=>h - (intOf s).toNat)
   case atStart=>exact⟨0,A_ _,rfl,H_ ⟨v7,Chg.refl _ _⟩⟩
   case round=>
    obtain⟨k,C1,rfl,HK⟩:=hrel
    by_cases w4:k < h
    ·have x5:(k:Int) < (h:Int):=o_
     have d8:k < 6:=o_
     have A3:(k:Int) < 6:=o_
     have C2:IntKind.i64.wrap (k:Int)=(k:Int):=M_ _ o_;obtain⟨p,hp,x6⟩:=(k1.out k d8).on;have m8:bk ns (J k)=p.b:=zz4 hp;have d9:(A++(⟨x,b,tb,k,h⟩:Nd)::R)[J k]?=some p:=by
      have h2:=(k1.out k d8).lt;rw[<-a8.out,K_ h2]at hp;rw[K_ h2];exact hp
     have d':(A++(⟨x,b,tb,k,h⟩:Nd)::R)[A.length]?=some ⟨x,b,tb,k,h⟩:=by simp
     have s4:=HK.1;have C:SkC wr.drew (A++(⟨x,b,tb,k,h⟩:Nd)::R):=s4.chg (F:=[]) (Chg.refl _ wr).drew (fun _ _=>by simp);obtain⟨p5,⟨pl,pf⟩,pc,x7⟩:=C.look d9 x6;have b6:=C.node _ (u_ d');have n5:=b6.cell 5;simp only[It.cells,U_,D_,gE0,gE1]at n5;obtain⟨cs,t1,t2,_⟩:=C.tower _ _ d';have tk:=t1.cell k;rw[j_ (by simp only at t2;omega)]at tk;have tf:=t1.free k;have g8:=(v8.chg HK.2 s3).drew;have x':wr.drew.cell? ⟨w3,k,none⟩=some (.pointer (some p.b)):=by
      rw[g8.cell,qv5 (fun l=>Value.pointer (some ⟨bk ns (J l),0,none⟩)) d8,m8]
     have m9:=uk1 _ _ _ _ _ C.apart d9 d';have a7:p.tb≠tb:=fun e=>by
      have:=m9.2.1 e;have:=(k1.out k d8).lt;omega
     have hr:=C.raise (l:=k) rfl w4 ((a8.out▸k1.out k d8:Pred (A++R) k A.length (J k)).insert rfl) d9;have b8:=gq1 p.tb k _ wr.drew pl (C.ptr k _);generalize hv:(nxb k ((A++(⟨x,b,tb,k,h⟩:Nd)::R).drop (J k+1))).map (fun b=>(⟨b,0,none⟩:Addr))=v at *;have s5:gq4 wr.drew v:=by rw[<-hv];exact C.ptr k _
     have s6:=fk2 tb k _ v wr.drew tk tf s5;have h9:=tq wr.drew ⟨tb,k,none⟩ (.pointer v);have l1:(w3:Nat)∉[tb]:=fun e=>s3.out (by rw[c_.1 e,HF.out];simp);have s7:(wr.drew.setCell ⟨tb,k,none⟩ (.pointer v)).cell? ⟨w3,k,none⟩=some (.pointer (some p.b)):=by
      rw[(g8.chg h9 l1).cell,qv5 (fun l=>Value.pointer (some ⟨bk ns (J l),0,none⟩)) d8,m8]
     have s8:p.b∉[tb]:=fun e=>m9.2.2 (c_.1 e);have s9:=((C.node p (u_ d9)).chg h9 s8).cell 5;simp only[It.cells,U_,D_,gE0,gE1]at s9;obtain⟨cp,u1,u2,_⟩:=C.tower _ _ d9;have u3:=u1.chg h9 (fun e=>a7 (c_.1 e));have uk:=u3.cell k;rw[j_ o_]at uk;have uf:=u3.free k;have s':b∉[tb]:=fun e=>(uk1 _ _ _ _ _ C.apart d' d').2.2 (c_.1 e);have t0:=fk2 p.tb k _ (some ⟨b,0,none⟩) _ uk uf ⟨b,_,rfl,b6.chg h9 s',rfl⟩;have C6:(k:Int) < (p.c:Int):=o_
     have t3:Chg F w6 ((wr.drew.setCell ⟨tb,k,none⟩ (.pointer v)).setCell ⟨p.tb,k,none⟩ b):=(HK.2.drew.setCell _ (.inl (by rw[HF.out];simp))).setCell _ (.inl (by rw[HF.out];exact f_ _ (W_.2 ⟨p,u_ hp,by simp⟩)));have i':=H_ b8;have y7:=H_ s6;have y8:=H_ t0;have y9:=H_ (d_ hr t3);have q5:wr.cell? (b,5)=_:=n5;have A9:(wr.setCell ⟨tb,k,none⟩ (.pointer v)).cell? ⟨w3,k,none⟩=_:=s7;have C7:(wr.setCell ⟨tb,k,none⟩ (.pointer v)).cell? (p.b,5)=_:=s9;have q8:wr.cell? ⟨w3,k,none⟩=_:=x';have qp:wr.cell? (p.b,5)=_:=p5;clear b8 s6 t0 hr t3 s4 C b6 t1 t2 tk tf g8 m9 a7 s5 h9 l1 s8 u1 u2 u3 uk uf s' pl pf x7 hv HK d9 d' hp m8;go_wp2_with fail
     go_region_with (first
      |(go_at_call 162;refine i'.mono ?_;rintro e w7 ⟨rfl,rfl⟩)
      |(go_at_call 163;refine y7.mono ?_;rintro e w8 ⟨rfl,rfl⟩))
     all_goals
      go_wp2_with fail;refine y8.mono ?_;rintro e w9 ⟨rfl,rfl⟩;go_wp2;go_roundw
      case rel=>exact⟨k+1,o_,by go_num,H_ y9⟩
      case measure=>simp[intOf];omega
    ·have y':k=h:=o_
     subst y';have x5:((k:Int) < (k:Int))=False:=eq_false o_;have m':=HK.2;have h':=v9.chg m' w1;have g0:=h'.c0;have g1:=h'.c1;have z0:=h'.free 1;have C8:tl.length < 1000000:=by have:=j'.1;rw[this,r_]at t';omega
     have C9:IntKind.i64.wrap ((tl.length:Int)+1)=((tl.length+1:Nat):Int):=by rw[M_ _ o_];omega
     have b5:=h'.store 1 (.int .i64 ((tl.length+1:Nat):Int));have k2:=tq wr ⟨L,1,none⟩ (.int .i64 ((tl.length+1:Nat):Int));simp only[T_,Q_]at b5 k2;have n1:∀g∈(A++(⟨x,b,tb,k,k⟩:Nd)::R).flatMap (fun n=>[n.b,n.tb]),g∈ns.flatMap (fun n=>[n.b,n.tb])\/g=b\/g=tb:=fun g I=>by
      rw[<-a8.out];obtain⟨m,hm,I⟩:=W_.1 I
      rcases q_.1 hm with h2|h2
      ·exact .inl (W_.2 ⟨m,x_ _ h2,I⟩)
      ·rcases h_.1 h2 with rfl|h2
       ·right;simpa using I
       ·exact .inl (W_.2 ⟨m,k_ _ h2,I⟩)
     have n2:L∉(A++(⟨x,b,tb,k,k⟩:Nd)::R).flatMap (fun n=>[n.b,n.tb]):=fun hm=>by
      have h3:=l4.out L p_;have h4:=k0.out
      rcases n1 L hm with h2|h2|h2
      ·exact HS.out.out h2
      ·omega
      ·omega
     have t4:=HK.1.chg k2 (fun g I e=>n2 (by rw[<-c_.1 e];exact I));have n4:A=hd::tl.take (pos l x):=by
      have h2:=m7.out;have h3:=a8.out;rw[j'.1]at h3
      cases A with
      |nil=>simp at h2
      |cons a A=>
       simp only[U_,List.cons.injEq]at h3;simp only[r_,Nat.add_right_cancel_iff]at h2;rw[<-h3.2,<-h2,cJ_,h3.1]
     have i0:its (A++(⟨x,b,tb,k,k⟩:Nd)::R)=put l x:=by
      rw[lw4 (by rw[m7.out];omega),a8.out,m7.out,<-HL.out,j5.out];rfl
     have b':SkAt (wr.setCell (L,1) (.int .i64 ((tl.length+1:Nat):Int))) L (A++(⟨x,b,tb,k,k⟩:Nd)::R):=by
      refine⟨t4,⟨hd,tl.take (pos l x)++(⟨x,b,tb,k,k⟩:Nd)::R,by rw[n4];rfl,j'.2,?_⟩,n2,fun m hm=>?_,by rw[i0];exact xq1 a5⟩
      ·have h2:(tl.take (pos l x)++(⟨x,b,tb,k,k⟩:Nd)::R).length=tl.length+1:=by
        have h3:=congrArg List.length a8;rw[n4,j'.1]at h3;simp only[e_,r_,U_]at h3 ⊢;omega
       rw[h2];exact b5
      ·rcases q_.1 hm with h2|h2
       ·exact HS.tall m (by rw[<-a8.out];exact x_ _ h2)
       ·rcases h_.1 h2 with rfl|h2
        ·exact h1
        ·exact HS.tall m (by rw[<-a8.out];exact k_ _ h2)
     have hR:wput l x=put l x:=by unfold wput;rw[if_neg (by rw[j4.out];simp)]
     have t5:Chg (skF L ns) w (wr.setCell (L,1) (.int .i64 ((tl.length+1:Nat):Int))):=by
      refine((Chg.of_below v'.out (skF L ns)).trans m' (fun g I=>?_)).trans k2 (fun g I=>.inl (by rw[c_.1 I];exact p_));rw[HF.out]at I
      rcases h_.1 I with rfl|I
      ·exact .inr k0.1
      ·exact .inl (f_ _ I)
     have z4:=H_ (show wk2 w L ns (wput l x) (.returned (.tuple #[.bool true,.int .i64 0])) (wr.setCell (L,1) (.int .i64 ((tl.length+1:Nat):Int))) from ⟨true,_,rfl,b',by rw[hR];exact i0,t5,fun g I=>by
      rcases h_.1 I with rfl|I
      ·exact .inl p_
      ·rcases n1 g I with h2|h2|h2
       ·exact .inl (f_ _ h2)
       ·exact .inr (by rw[h2];exact k0.2)
       ·exact .inr (by rw[h2];exact k0.1)⟩)
     clear b5 k2 n1 n2 t4 n4 i0 b' hR t5 h' m';go_wp2;go_ret2;rw[<-HL.out];exact z4
end Go.Proofs.YtfbkjjdfboagfaaGreatDoor
