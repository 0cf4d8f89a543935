/- Some of the texts. No conditions. -/
import Derived.Test.YtkdbagdiplpcfaaGreatDoorBunAU

set_option linter.unusedSimpArgs false
set_option linter.unusedVariables false
set_option maxRecDepth 100000
set_option maxHeartbeats 16000000
namespace Go.Proofs.YtkdbagdiplpcfaaGreatDoor
open Go.Proofs.Tryz Go Go.RowKit Go.Lib Go.Shelf
section
variable {w w1 w2:World} {X X1 X2:Dw} {S S1 S2:Sd} {Y Y1 Y2:Yw} {V V1 V2:Sv}
theorem Gw.jw4 (d:Sd) (M:Gs) (nm:List UInt8):(Gw.rewrite d M nm).2.1.v=M.v:=by
 unfold Gw.rewrite Gw.tmp Gw.hd Gw.sd1 Gw.ren Gw.fin
 repeat' split
 all_goals rfl
theorem lk2 (S:Sd):∀(l:List (List UInt8)),(∀s∈l,St.dy1 s=false)->St.wipe l S=(S,0)
 |[],_=>rfl
 |s::r,h=>by
  unfold St.wipe;rw[h s i_];exact lk2 S r (fun x C=>h x (e_ _ C))
def fy3 (X:Dw) (w:World) (S':Sd) (V':Sv) (e:Ending) (w':World):Prop:=∃X' Y,e=.returned (.tuple #[.pointer (some ⟨Y.s,0,none⟩),.int .i64 0])/\X'.d=X.d/\SvAt w' X' S' Y V'/\Chg X.foot w w'/\(∀g∈XY X' Y,g∈X.foot\/w.heap.size<=g)
theorem nw3 (h:Dm w X S) (a7:∀s∈S.list,St.dy1 s=false) (h0:S.load<=100000000000) (S':Sd) (V':Sv) (C:St.create S=(S',some V',0)):
  Calls prog 46 #[.pointer (some ⟨X.d,0,none⟩)] w (fy3 X w S' V'):=by
 have H:=(Acc.start (F:=[]) h).list;have h6:=wk1 h.wf;have b9:=pk1 h.wf;have Q:∀k (hk:k < S.list.length) W,Below w.heap.size w W->Calls prog 110 #[.string (str S.list[k])] W fun e w'=>e=.returned (.bool false)/\Below W.heap.size W w':=fun k hk W hb=>by
  have:=aq3 S.list[k] (by have:=vk1 (b9 _ (u_ hk));omega) W (h.env.below hb);rw[a7 _ (u_ hk)]at this;exact this
 unfold St.create at C;rw[lk2 S _ a7]at C;simp only[ne_eq,not_true_eq_false,if_false]at C;have b':=Sd.gq1 S St.ry;have a1:∀W,Below w.heap.size w W->Calls prog 111 #[.pointer (some ⟨X.d,0,none⟩),.string { data:=#[108,111,103,46,49] }] W (qy4 X W St.ry (S.create St.ry)):=fun W hb=>sk3 X S St.ry W (by decide) o_ (h.below hb);obtain⟨a,ha⟩:=n_ (S.create St.ry);rw[<-ha]at C a1 b';obtain⟨S1,h8⟩:=a;simp only at C b';have h1:h8=0:=by
  apply aN_;intro h1;rw[if_pos h1]at C;simp at C
 subst h1;simp only[not_true_eq_false,if_false]at C;have a2:∀W,Below w.heap.size w W->Calls prog 111 #[.pointer (some ⟨X.d,0,none⟩),.string { data:=#[108,111,103,46,49] }] W fun e w'=>∃g X',e=.returned (.tuple #[.pointer (some ⟨g,0,none⟩),.int .i64 0])/\X'.d=X.d/\Dm w' X' S1/\Chg X.foot W w'/\(∀g∈X'.foot,g∈X.foot\/W.heap.size<=g)/\LgAt w' g X.d St.ry 0 0/\W.heap.size<=g/\g∉X'.foot:=fun W hb=>(a1 W hb).mono fun e w' ⟨X',q1,q2,q3,q4,q5⟩=>by
  rcases q5 with ⟨q,_⟩|⟨_,g,q6,q7,q8,q9⟩
  ·exact absurd rfl q
  ·exact⟨g,X',q6,q1,q2,q3,q4,q7,q8,q9⟩
 have c9:=Sd.ex1 S1 St.ry;obtain⟨b,hb⟩:=n_ (S1.sync St.ry);rw[<-hb]at C c9;obtain⟨S2,h9⟩:=b;simp only at C c9;have h2:h9=0:=by
  apply aN_;intro h2;rw[if_pos h2]at C;simp at C
 subst h2;simp only[not_true_eq_false,if_false]at C;obtain⟨r,hr⟩:=n_ (Gw.rewrite S2 St.first (Mn.name Mn.kMan 1))
 have d':r.2.1.v=St.first.v:=by rw[hr];exact Gw.jw4 _ _ _
 rw[<-hr]at C;have h3:r.2.2=0:=by
  apply aN_;intro h3;rw[if_pos h3]at C;simp at C
 rw[if_neg (by simp[h3])]at C;simp only[bW_,aC_,and_true]at C;obtain⟨a9,a'⟩:=C;have h':=h.env.base;generalize S.list=Ls at H h6 b9 a7 Q;have HH:=H_ h;have HL:=H_ H;have e0:=H_ Q;have b2:=H_ a2;have i0:=H_ hb;have c':=H_ (c_ hr (c_ h3 d'));have HV:=H_ (c_ a9 a');have i1:=H_ (show S2.load<=1000000000000 by omega);clear h H Q a1 a2 ha b' hb c9 hr d' h3 a9 a' h0 a7 b9;go_enter func46,ntmps46;go_wp2_with fail
 refine m_ HL ?_
 rintro e w1 ⟨A,c,rfl,ho,e4⟩;have hrow:=Row.own ho;obtain⟨n,hn⟩:=n_ Ls.length;have j2:n<=64:=o_
 rw[<-hn]at hrow;rw[<-hn];have b3:=H_ hrow;have HN:=H_ hn;clear ho hrow hn HL;go_wp2
 go_loopw [14] (fun i wr=>∃k:Nat,k<=n/\i=.int .i64 (k:Int)/\Below w.heap.size w wr/\Below w1.heap.size w1 wr) (fun i _=>n - (intOf i).toNat)
 case atStart=>exact⟨0,w_ _,rfl,e4,Below.refl _ _⟩
 case round=>
  obtain⟨k,hk,rfl,I,d0⟩:=hrel
  by_cases i2:k < n
  ·obtain⟨p,hl,rfl,k4,c0⟩:=(b3.out.below d0).enc i2
   have Q:=e0.out k hl wr I;generalize Ls[k]=s at *;have HI:=H_ Q;clear Q hl;go_wp2_with fail
   refine m_ HI ?_
   rintro e w2 ⟨rfl,d1⟩;have i3:=az I d1;have e5:=az d0 d1;clear d1 HI;go_wp2;go_roundw
   case rel=>exact⟨k+1,o_,by go_num,i3,e5⟩
   case measure=>simp[intOf];omega
  ·go_wp2_with fail
   with_reducible refine(b2.out wr I).mono ?_
   rintro e w2 ⟨g,X1,rfl,e1,d2,e6,e7,d3,e9,d4⟩;have e':w.heap.size<=g:=j_ I.size e9;have d5:=ek2 X1 S1 g St.ry 0 0 w2 (by decide) d2 (by rw[e1];exact d3) d4;rw[<-i0.out]at d5;have HS:=H_ d5;have HD:=H_ d2;have a4:=H_ (c_ ((Chg.of_below I X.foot).trans e6 (fun g hg=>.inl hg)) (fun g hg=>(e7 g hg).imp id (j_ I.size):∀g∈X1.foot,g∈X.foot\/w.heap.size<=g));have U:=H_ (c_ d3 (c_ e' d4));have f5:=H_ e1;clear d5 d2 e6 e7 d3 e9 d4 e' e1 I d0 b2 e0 b3 e4;go_wp2_with fail
   refine m_ HS ?_
   rintro e w3 ⟨rfl,X2,e2,f6,d6,d7⟩;have b5:=U.out.1.chg d6 U.out.2.2;have f7:g∉X2.foot:=fun Z=>by
    rcases d7 g Z with q|q
    ·exact U.out.2.2 q
    ·have:=U.out.1.lt
     omega
   have f8:=a4.out.1.trans d6 a4.out.2;have f9:∀g∈X2.foot,g∈X.foot\/w.heap.size<=g:=fun g hg=>by
    rcases d7 g hg with q|q
    ·exact a4.out.2 g q
    ·exact .inr (j_ a4.out.1.size q)
   have a5:=gz5 (w:=w3) (X:=X2) (S:=S2) ⟨1,[],0,0,0,0⟩ none 0 0 (by decide) o_ o_ z_ Row.nil_ i1.out f6 _ c'.out.1 c'.out.2.1;rw[e2,f5.out]at a5;unfold Vw.val at a5;simp only[cr_]at a5;have f':=H_ a5;have J:=H_ (c_ b5 f7);have b0:=H_ (c_ f8 f9);have i7:=H_ (e2.trans f5.out);clear a5 b5 f7 f8 f9 e2 f6 d6 d7 HS HD a4;go_wp2_with fail
   refine m_ f' ?_
   rintro e w4 ⟨P,m,X3,rfl,g0⟩;have g1:=zx2 w4;have g2:=H_ g1;have g4:=H_ g0;clear g1 g0 f';go_wp2_with fail
   refine m_ g2 ?_
   rintro e w5 ⟨mm,L,ns,rfl,d8,b6,d9,b7⟩;have b8:fy3 X w S' V' (.returned (.tuple #[.pointer (some ⟨w5.heap.size,0,none⟩),.int .i64 0])) (w5.alloc (.cells #[.pointer (some ⟨X.d,0,none⟩),.pointer (some ⟨m,0,none⟩),.pointer (some ⟨g,0,none⟩),.pointer (some ⟨mm,0,none⟩),.slice none 0 0,.slice none 0 0,.int .i64 0,.int .u32 0,.int .i32 0,.int .u32 0,.bool false] 81)):=by
    obtain⟨a9,a'⟩:=HV.out;subst a9 a';have O:=g4.out;have g5:=b_ w5 (.cells #[.pointer (some ⟨X.d,0,none⟩),.pointer (some ⟨m,0,none⟩),.pointer (some ⟨g,0,none⟩),.pointer (some ⟨mm,0,none⟩),.slice none 0 0,.slice none 0 0,.int .i64 0,.int .u32 0,.int .i32 0,.int .u32 0,.bool false] 81);have i8:=BoxO.new w5 #[.pointer (some ⟨X.d,0,none⟩),.pointer (some ⟨m,0,none⟩),.pointer (some ⟨g,0,none⟩),.pointer (some ⟨mm,0,none⟩),.slice none 0 0,.slice none 0 0,.int .i64 0,.int .u32 0,.int .i32 0,.int .u32 0,.bool false] 81;have E:=az d9 g5;have z3:w3.heap.size<=w4.heap.size:=O.c.size;have z4:=d9.size;have zg:=J.out.1.lt;have zm:=O.new;have k6:=O.man.lt;have zl:∀g∈mm::skF L ns,w4.heap.size<=g/\g < w5.heap.size:=fun g hg=>⟨b7 g hg,d8.lt g hg⟩;have zx:∀g∈X3.foot,g < w4.heap.size:=O.dm.dk.lt;have zw:w.heap.size<=w3.heap.size:=b0.out.1.size;have i9:g∉X3.foot:=fun Z=>by
     rcases O.f g Z with q|q
     ·exact J.out.2 q
     ·omega
    have e3:X3.d=X.d:=O.e.trans i7.out;refine⟨X3,⟨w5.heap.size,m,g,mm,L,ns,P,⟨none,0,0⟩,⟨none,0,0⟩,[]⟩,rfl,e3,⟨O.dm.below E,by rw[e3];exact i8,by rw[O.e];exact O.man.below E,O.row.below E,fun j hj a ha=>?_,by rw[e3];exact(J.out.1.chg O.c J.out.2).below E,d8.below g5,b6,fun _ _=>⟨rfl,Row.nil_,y_ _,w_ _,fun _=>⟨rfl,rfl⟩,fun p hp=>by cases hp⟩,fun _ _=>Its.nil 0 _,⟨?_,?_,?_,fun Z=>?_⟩,?_⟩,?_,?_⟩
    ·exfalso
     have q:=c'.out.2.2;change j < (dw r.2.1.v.files).length at hj;rw[q]at hj;exact Nat.not_lt_zero _ hj
    ·intro x hx Z
     have:=zx x Z
     rcases Yw.aj.1 hx with q|q|q|q|q
     ·have:x=w5.heap.size:=q
      omega
     ·exact O.away (by rw[<-show x=m from q];exact Z)
     ·exact i9 (by rw[<-show x=g from q];exact Z)
     ·have:=zl x (by rw[show x=mm from q];exact i_)
      omega
     ·have:=zl x (e_ _ q)
      omega
    ·intro Z
     rcases f_.1 Z with q|q
     ·have:w5.heap.size=m:=q
      omega
     ·rcases f_.1 q with q|q
      ·have:w5.heap.size=g:=q
       omega
      ·have:=zl _ q
       simp only at this;omega
    ·intro Z
     rcases f_.1 Z with q|q
     ·have:m=g:=q
      omega
     ·have:=zl _ q
      simp only at this;omega
    ·have:=zl _ Z
     simp only at this;omega
    ·intro x hx
     rcases Yw.aj.1 hx with q|q|q|q|q
     ·have:x=w5.heap.size:=q
      omega
     ·have:x=m:=q
      omega
     ·have:x=g:=q
      have:=U.out.2.1;omega
     ·have:=zl x (by rw[show x=mm from q];exact i_)
      omega
     ·have:=zl x (e_ _ q)
      omega
    ·exact(b0.out.1.trans O.c b0.out.2).trans (Chg.of_below E []) (fun g hg=>by cases hg)
    ·intro x hx
     rcases k_.1 hx with q|q
     ·rcases O.f x q with q|q
      ·exact b0.out.2 x q
      ·exact .inr o_
     ·right
      rcases Yw.aj.1 q with q|q|q|q|q
      ·have:x=w5.heap.size:=q
       omega
      ·have:x=m:=q
       omega
      ·have:x=g:=q
       have:=U.out.2.1;omega
      ·have:=zl x (by rw[show x=mm from q];exact i_)
       omega
      ·have:=zl x (e_ _ q)
       omega
   have HF:=H_ b8;clear b8 d8 b6 d9 b7 g2 g4;go_wp2;refine bodyPost_ret (v:=.tuple #[.pointer (some ⟨w5.heap.size,0,none⟩),.int .i64 0]) (by simp[results,go_sem]) rfl HF.out
theorem ay4 (C:∀s∈S.list,St.dy1 s=false):St.pq4 S=true:=by
 unfold St.pq4;have:(S.list.any fun s=>St.dy1 s&&!St.isNone S s)=false:=by
  rw[X_];intro s hs;rw[C s hs];simp
 rw[this];rfl
theorem tv4 (h:Dm w X S) (hd:S.dead=false) (C:∀s∈S.list,St.dy1 s=false) (H:S.load<=100000000000) (S':Sd) (V':Sv) (hR:St.create S=(S',some V',0)):
  Calls prog 12 #[.pointer (some ⟨X.d,0,none⟩)] w (fy3 X w S' V'):=by
 have E:=wk4 X S w h;rw[ay4 C]at E;have I:∀W,Below w.heap.size w W->Calls prog 46 #[.pointer (some ⟨X.d,0,none⟩)] W (fy3 X w S' V'):=fun W U=>(nw3 (h.below U) C H S' V' hR).mono fun e w' ⟨X',Y,q1,q2,q3,q4,q5⟩=>⟨X',Y,q1,q2,q3,(Chg.of_below U X.foot).trans q4 (fun g Z=>.inl Z),fun g Z=>(q5 g Z).imp id (j_ U.size)⟩;have c6:=h.dk.box.cell 6;simp only[Dw.cells,gE0,gE1]at c6;rw[hd]at c6;have J:=H_ E;have O:=H_ I;clear h hd E I C hR H;go_enter func12,ntmps12;go_wp2_with (first|(go_at_call 44;go_in)|fail)
 refine m_ J ?_
 rintro e w1 ⟨rfl,Q⟩;go_wp2_with fail
 with_reducible refine(O.out w1 Q).mono ?_
 rintro e w2 ⟨X',Y,rfl,h2⟩;have HZ:Hid (fy3 X w S' V' (.returned (.tuple #[.pointer (some ⟨Y.s,0,none⟩),.int .i64 0])) w2):=H_ ⟨X',Y,rfl,h2⟩;clear h2 Q J O;go_wp2;go_ret2;exact HZ.out
structure WAt (w0 w:World) (gw:Nat) (X:Dw) (S:Sd) (Y:Yw) (V:Sv):Prop where
 at_:SvAt w X S Y V
 box:BoxO w 39 gw [.pointer (some ⟨X.d,0,none⟩),.pointer (some ⟨Y.s,0,none⟩),.slice none 0 0,.int .u64 0,.int .u64 0,.int .u64 0,.int .u64 0]
 low:∀g∈XY X Y,w0.heap.size<=g
 out:gw∉XY X Y
 gl:w0.heap.size<=gw
 bel:Below w0.heap.size w0 w
theorem WAt.below {w0:World} {gw:Nat} (h:WAt w0 w gw X S Y V) (C:Below w.heap.size w w1):WAt w0 w1 gw X S Y V:=⟨h.at_.below C,h.box.below C,h.low,h.out,h.gl,az h.bel C⟩
theorem WAt.upd {w0:World} {gw:Nat} (h:WAt w0 w gw X S Y V) (C:aw1 X Y w w1 S1 V1):∃X1 Y1,WAt w0 w1 gw X1 S1 Y1 V1/\∀g∈XY X1 Y1,g∈XY X Y\/w.heap.size<=g:=by
 obtain⟨X1,Y1,e,es,h1,c,f⟩:=C;have I:=h.box.lt;refine⟨X1,Y1,⟨h1,by rw[e,es];exact h.box.chg c h.out,fun g E=>?_,fun H=>?_,h.gl,h.bel.trans (c.below h.bel.size h.low)⟩,f⟩
 ·rcases f g E with q|q
  ·exact h.low g q
  ·exact j_ h.bel.size q
 ·rcases f gw H with q|q
  ·exact h.out q
  ·omega
theorem cj5 (q:Int):(Sd.new q).list=[]:=by simp[Sd.list,Sd.new]
theorem bq5 {q:Int} (E:q<=1099511627776) (C:Env w) (hd:DK w1 X (Sd.new q)) (H:Below w.heap.size w w1) (I:∀g∈X.foot,w.heap.size<=g):Dm w1 X (Sd.new q):=
 ⟨hd,Sd.ux4 q E,C.below H,fun g J=>j_ C.base (I g J)⟩
theorem ux3 (q:Int) (hq:q<=1099511627776) (he:Env w) (S':Sd) (V':Sv) (hR:St.create (Sd.new q)=(S',some V',0)):
  Calls prog 4 #[.int .i64 q] w fun e w'=>∃gw X Y,e=.returned (.pointer (some ⟨gw,0,none⟩))/\WAt w w' gw X S' Y V':=by
 have O:=dz5 q w;have Q:=H_ O;have HE:=H_ he;have HR:=H_ hR;clear O he;go_enter func4,ntmps4;go_wp2_with fail
 refine m_ Q ?_
 rintro e w1 ⟨X,rfl,U,E,H⟩;have Z:=bq5 hq HE.out U E H;have a0:=tv4 Z rfl (by rw[cj5];intro s hs;cases hs) (by show 0<=_;omega) S' V' HR.out;have a1:=H_ a0;have HB:=H_ (c_ E H);clear a0 U E H Z Q;go_wp2_with fail
 refine m_ a1 ?_
 rintro e w2 ⟨X2,Y,rfl,e2,hs,hc,hf⟩;have C:∀g∈XY X2 Y,w.heap.size<=g:=fun g hg=>by
  rcases hf g hg with z|z
  ·exact HB.out.2 g z
  ·exact j_ HB.out.1.size z
 have I:Below w.heap.size w w2:=HB.out.1.trans (hc.below HB.out.1.size HB.out.2);have J:=b_ w2 (.cells #[.pointer (some ⟨X.d,0,none⟩),.pointer (some ⟨Y.s,0,none⟩),.slice none 0 0,.int .u64 0,.int .u64 0,.int .u64 0,.int .u64 0] 39);have a4:=BoxO.new w2 #[.pointer (some ⟨X.d,0,none⟩),.pointer (some ⟨Y.s,0,none⟩),.slice none 0 0,.int .u64 0,.int .u64 0,.int .u64 0,.int .u64 0] 39;have hz:WAt w (w2.alloc (.cells #[.pointer (some ⟨X.d,0,none⟩),.pointer (some ⟨Y.s,0,none⟩),.slice none 0 0,.int .u64 0,.int .u64 0,.int .u64 0,.int .u64 0] 39)) w2.heap.size X2 S' Y V':=
  ⟨hs.below J,by rw[e2];exact a4,C,fun hm=>by have:=hs.lt _ hm;omega,I.size,az I J⟩
 have HZ:=H_ hz;clear hz J a4 hs hc hf C I e2 a1;go_wp2;go_ret;exact⟨_,_,_,rfl,HZ.out⟩
end
section
open Calm (jy1)
theorem ax4 {s:List UInt8} (h:St.dy1 s=false):Mn.number s Mn.kMan=none/\Mn.number s Mn.kLog=none/\s≠Mw.kCur/\s≠Mw.jw:=by
 unfold St.dy1 at h;simp only[b7_,List.any_cons,List.any_nil,cn_]at h;obtain⟨⟨h1,h2⟩,h3,h4,h5⟩:=h;refine⟨by cases C:Mn.number s Mn.kMan<;>simp[C]at h5 ⊢,by cases C:Mn.number s Mn.kLog<;>simp[C]at h3 ⊢,by simpa using h1,by simpa using h2⟩
namespace Gw
open Mn
open Mw (kCur jw headB sweep man dv2 ww2 tw2 gx2 iz1 zz1 xw1 qx1)
theorem vv2 {d:Sd} {M:Gs} (hv:M.v.ok=true) {k B:Nat} {K:List (List UInt8)} (h:Calm d) (E:1<=k) (H:k<=1073741824) (I:Small d K B) (hK:K.length<=40) (Z:cont d jw=none) (J:cont d (man k)=none)
  (hB:2100<=B) (hq:(K.length+4)*B<=d.quota):
  ∃d6,Calm d6/\cont d6=upd (upd (upd (upd (cont d) (man k) (some (M.v.whole.rec_))) jw (some (headB k))) kCur (some (headB k))) jw none/\d6.quota=d.quota/\rewrite d M (man k)=(sweep (man k) d6.list d6,{ M with name:=man k,count:=1 },0):=by
 have hr:=Ed.wy2 (Vw.fx2 hv);have hh:=cv3 k;have O:(number (man k) kMan).getD 0=(k:Int):=by rw[zz1 E H];rfl
 obtain⟨Q,hQ⟩:=n_ (K.length *B);have e1:(K.length+4)*B=Q+4 *B:=by rw[bu_,<-hQ]
 have e2:(K.length+1)*B=Q+B:=by rw[bu_,<-hQ,Nat.one_mul]
 have e3:(K.length+1+1)*B=Q+2 *B:=by rw[Nat.add_assoc,bu_,<-hQ]
 obtain⟨a1,a2,a3,a4⟩:=h.write (dv2 E H) J I o_ M.v.whole.rec_ o_ o_;have a6:jw≠man k:=(ww2 E H).symm;have U:cont (d.write (man k) M.v.whole.rec_).1 jw=none:=by rw[a3,upd,if_neg a6];exact Z
 have a7:=a2.rx4 iz1 U;have a8:Small (d.write (man k) M.v.whole.rec_).1 (man k::K) B:=⟨fun s x C=>by
  rw[a3,upd]at C;split at C
  ·subst_vars;simp
  ·exact e_ _ (I.names s x C),fun s x C=>by
  rw[a3,upd]at C;split at C
  ·injection C with C;subst C;omega
  ·exact I.len s x C⟩
 obtain⟨b1,b2,b3,b4⟩:=a2.write iz1 U a8 (by simp;omega) (headB k) o_ (by rw[q_];omega);obtain⟨e1,e2,e3,e4⟩:=b2.ax;have a9:cont ((d.write (man k) M.v.whole.rec_).1.write jw (headB k)).1.ax.1 jw=some (headB k):=by rw[e3,b3,upd,if_pos rfl]
 obtain⟨f1,f2,f3,f4⟩:=e2.rename iz1 gx2 tw2.symm a9;obtain⟨g1,g2,g3,g4⟩:=f2.ax;refine⟨(((((d.write (man k) M.v.whole.rec_).1.write jw (headB k)).1.ax).1.rename jw kCur).1.ax).1,g2,?_,?_,?_⟩
 ·rw[g3,f3,e3,b3,a3]
 ·rw[g4,f4,e4,b4,a4]
 ·unfold rewrite
  rw[if_neg (by simp[a1]),tmp,if_neg (by rw[a7];simp),hd,O,if_neg (by simp[b1]),sd1,if_neg (by simp[e1]),ren,if_neg (by simp[f1]),fin,if_neg (by simp[g1])]
end Gw
theorem ak3 {d:Sd} {K:List (List UInt8)} {B:Nat} (h:Calm d) (H:Small d K B) (hK:K.length<=30) (I:∀s x,cont d s=some x->St.dy1 s=false) (hB:2100<=B) (hq:(K.length+5)*B<=d.quota):
  ∃d6,St.create d=(d6,some ⟨{ St.first with name:=Mw.man 1,count:=1 },St.ry,0,0,[],[],[],false⟩,0)/\Calm d6/\d6.quota=d.quota/\
   cont d6=upd (upd (upd (upd (upd (cont d) St.ry (some [])) (Mw.man 1) (some (St.first.v.whole.rec_))) Mw.jw (some (Mw.headB 1))) Mw.kCur (some (Mw.headB 1))) Mw.jw none:=by
 have Q:St.dy1 St.ry=true:=by decide+kernel
 have U:St.dy1 (Mw.man 1)=true:=by decide+kernel
 have Z:St.dy1 Mw.jw=true:=by decide+kernel
 have E:∀s,St.dy1 s=true->cont d s=none:=fun s hs=>by
  cases hc:cont d s with
  |none=>rfl
  |some x=>rw[I s x hc]at hs;cases hs
 have hw:=lk2 d d.list (fun s hs=>by
  obtain⟨x,C⟩:=h.jy1.1 hs;exact I s x C)
 obtain⟨ln,lu⟩:=h.nw1 H;obtain⟨a1,a2,a3,a4⟩:=h.create (s:=St.ry) (by decide+kernel) (E _ Q) o_;obtain⟨b1,b2,J,b4⟩:=a2.sync (s:=St.ry) (by decide+kernel) (x:=[]) (by rw[a3,upd,if_pos rfl]);have a0:Small ((d.create St.ry).1.sync St.ry).1 (St.ry::K) B:=⟨fun s x C=>by
  rw[J,a3,upd]at C;split at C
  ·subst_vars;simp
  ·exact e_ _ (H.names s x C),fun s x C=>by
  rw[J,a3,upd]at C;split at C
  ·injection C with C;subst C;simp
  ·exact H.len s x C⟩
 have a5:Mw.jw≠St.ry:=by decide
 have a6:Mw.man 1≠St.ry:=by decide+kernel
 obtain⟨d6,c1,c2,c3,c4⟩:=Gw.vv2 (M:=St.first) (by decide+kernel) (k:=1) b2 o_ o_ a0 (by rw[q_];omega) (by rw[J,a3,upd,if_neg a5];exact E _ Z) (by rw[J,a3,upd,if_neg a6];exact E _ U) hB (by rw[b4,a4,q_];exact hq);have a7:Mw.sweep (Mw.man 1) d6.list d6=d6:=Mw.qx1 _ _ _ (fun s hs O=>by
  obtain⟨x,C⟩:=c1.jy1.1 hs;rw[c2,J,a3]at C;unfold upd at C;split at C
  ·cases C
  ·split at C
   ·rename_i h2
    rw[h2,Mw.xw1]at O
    cases O
   ·split at C
    ·assumption
    ·split at C
     ·rename_i h2
      rw[h2,show Mn.number St.ry Mn.kMan=none from by decide+kernel]at O
      cases O
     ·rw[(ax4 (I s x C)).1]at O
      cases O)
 refine⟨d6,?_,c1,by rw[c3,b4,a4],by rw[c2,J,a3];rfl⟩;unfold St.create;rw[hw];simp only[ne_eq,not_true_eq_false,if_false,a1,b1];rw[show Mn.name Mn.kMan 1=Mw.man 1 from rfl,c4,a7];simp
end
end Go.Proofs.YtkdbagdiplpcfaaGreatDoor
