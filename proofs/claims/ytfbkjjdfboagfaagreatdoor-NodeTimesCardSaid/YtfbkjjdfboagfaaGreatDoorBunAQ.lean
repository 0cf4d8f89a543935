/- Some of the texts. No conditions. -/
import Derived.Test.YtfbkjjdfboagfaaGreatDoorBunAL
import Derived.Test.YtfbkjjdfboagfaaGreatDoorBunAK

set_option linter.unusedSimpArgs false
set_option linter.unusedVariables false
set_option maxRecDepth 100000
set_option maxHeartbeats 16000000
namespace Go.Proofs.YtfbkjjdfboagfaaGreatDoor
open Go.Proofs.Tryz Go Go.RowKit Go.Lib Go.Shelf
theorem ov4 (L:Option Addr) (m d:Nat) (l:List It) (w:World) (h0:0 < m) (hm:m<=1000) (hq:Row w w L m 5 (itc l)) (hk:∀x∈l,x.ok=true/\x.fit):
  Calls prog 188 #[.slice L m d] w fun e w'=>∃A' M c',e=.returned (.tuple #[.slice A' M c',.int .i64 0])/\
   w'.ownsRow w 5 1 (.slice A' M c') M (bts (Lg.batch l))/\M<=c'/\c'<=maxLen/\Below w w w':=by
 have b0:=hq.yw;have o:=zz1 none 0 0 [] L m d l w o_ o_ Row.nil_ hq hk;rw[D_]at o;have b1:=It.aq1 l;have b2:((m:Int)==0)=false:=by simp;omega
 have E:=H_ o;clear o hk;go_enter func188,ntmps188;go_wp2_with fail;refine E.mono ?_;rintro e w1 ⟨A1,U,c1,rfl,z,a0,a1,H⟩;have a2:U=(It.bytes l).length:=by
  have:=z.1;rw[uq]at this;omega
 have a4:U<=60000:=o_
 have a':((60000:Int) < (U:Int))=False:=eq_false o_;have C:=lv1 none 0 0 [] 1 A1 U c1 (It.bytes l) w1 o_ o_ o_ Row.nil_ o_ o_ a4 a0 a1 (Row.own z);rw[D_]at C;have I:=H_ C;clear C z E a2;go_wp2_with fail;refine I.mono ?_;rintro e w2 ⟨A2,M2,c2,rfl,J,a5,a6,a7⟩;have O:=own_base J H.size;have Q:=az H a7;have HF:=H_ (d_ O (d_ a5 (d_ a6 Q)));clear J O Q I;go_wp2;go_ret2;exact⟨A2,M2,c2,rfl,HF⟩
abbrev LgAt (w:World) (g xd:Nat) (nm:List UInt8) (sz ct:Nat):Prop:=BoxO w 169 g [xd,.string (str nm),(sz:Int),(ct:Int),.bool false]
theorem UpdM.drew {X:Dw} {S:Sd} {w w':World} (h:UpdM X w.drew w' S):UpdM X w w' S:=by
 obtain⟨X2,a,b,c,d⟩:=h;exact⟨X2,a,b,((Chg.refl X.foot w).drew).trans c (fun g o=>.inl o),d⟩
theorem LgAt.upd {X:Dw} {S:Sd} {w w':World} {g o:Nat} {nm:List UInt8} {sz ct:Nat} (h:LgAt w g o nm sz ct) (z:UpdM X w w' S) (C:g∉X.foot):LgAt w' g o nm sz ct:=by
 obtain⟨X2,a,b,c,d⟩:=z;exact h.chg c C
theorem xy2 (l:List UInt8):(str l).data.toList=l:=by simp[str]
theorem fk4 (g o:Nat) (nm:List UInt8) (sz ct:Nat) (w:World) (h:LgAt w g o nm sz ct):
  Calls prog 115 #[g] w fun e w'=>e=.returned (.int .i64 ct)/\w'=w:=by
 have z:=H_ (ek4 g 3 (ct:Int) w (h.cell 3));clear h;go_enter func115,ntmps115;go_wp2_with fail;refine z.mono ?_;rintro e w1 ⟨rfl,rfl⟩;go_wp2;go_ret;exact⟨rfl,rfl⟩
theorem kz27 {P S a I v} (h:Hv P S a I v:=by intro w o;(have c0:=o.c0;have c1:=o.c1);go_simp;try (with_reducible rfl)):Hv P S a I v:=h
theorem kv2 (X:Dw) (S:Sd) (g:Nat) (nm:List UInt8) (sz ct:Nat) (w:World) (U:nm.length<=1000) (h:Dm w X S) (z:LgAt w g X.d nm sz ct) (E:g∉X.foot):
  Calls prog 83 #[g] w fun e w'=>e=.returned (.int .i64 ((S.sync nm).2:Int))/\UpdM X w w' (S.sync nm).1:=by
 have c0:=z.c0;have c1:=z.c1;have c4:=z.c4;have H:=(Acc.start (F:=[]) (h.below (w':=w.drew) (ax b0_))).sync (str nm) (by rw[jy];unfold maxLen;omega);rw[xy2]at H;have C:Calls prog 148 #[X.d,.string (str nm)] w.drew fun e w'=>e=.returned (.int .i64 ((S.sync nm).2:Int))/\UpdM X w w' (S.sync nm).1:=H.mono fun e w' ⟨h1,X2,h2⟩=>⟨h1,UpdM.drew h2.updM⟩;generalize (S.sync nm).2=er at *;have HS:=H_ C;have J:=H_ z;clear H C z h;go_enter func83,ntmps83;go_wp2_with fail;refine wp_region_held_drew (S:=fun w'=>LgAt w' g X.d nm sz ct) rfl J.drew (fun o=>?_);refine w_v 0 o ?_ (k:=kz27);go_simp;refine w_v 1 o ?_ (k:=kz27);go_simp;refine w_v 2 o ?_ (k:=kz27);go_simp;refine w_v 3 o ?_ (k:=kz27);go_simp;refine w_v 4 o ?_ (k:=kz27);go_simp;refine w_v 5 o ?_ (k:=kz27);go_simp;refine w_v 6 o ?_ (k:=kz27);go_simp;refine w_v 7 o ?_ (k:=kz27);go_simp;refine w_r 8 fun K O=>?_;go_simp
 refine m_ HS ?_
 rintro e w3 ⟨rfl,Q⟩;go_simp;refine O.out _ _ (J.upd Q E) ?_;clear o O K;intro o;go_simp;refine w_v 9 o ?_ (k:=kz27);go_simp;refine w_d ?_;clear o;go_wp2;go_ret;exact⟨rfl,Q⟩
def tq4 (X:Dw) (w:World) (nm:List UInt8) (R:Sd×Nat) (e:Ending) (w':World):Prop:=∃X',X'.d=X.d/\Dm w' X' R.1/\Chg X.foot w w'/\(∀g∈X'.foot,g∈X.foot\/(w:Nat)<=g)/\
 ((R.2≠0/\e=.returned (.tuple #[.pointer none,(R.2:Int)]))\/(R.2=0/\∃g,e=.returned (.tuple #[.pointer (some ⟨g,0,none⟩),.int .i64 0])/\LgAt w' g X.d nm 0 0/\(w:Nat)<=g/\g∉X'.foot))
theorem xy3 (X:Dw) (S:Sd) (nm:List UInt8) (w:World) (a0:nm.length<=1000) (C:S.load<=1099511627776) (h:Dm w X S):
  Calls prog 82 #[X.d,.string (str nm)] w (tq4 X w nm (S.create nm)):=by
 have z:=(Acc.start (F:=[]) h).create (str nm) (by rw[jy];unfold maxLen;omega) C;rw[xy2]at z;obtain⟨R,J⟩:=n_ (S.create nm);rw[<-J]at z ⊢;obtain⟨S1,er⟩:=R;simp only at z;have O:=H_ z;clear z h J;go_enter func82,ntmps82;go_wp2_with fail;refine O.mono ?_;rintro e w1 ⟨rfl,X2,h2⟩;have o:=H_ h2;clear h2 O
 by_cases Q:er=0
 ·subst Q
  go_wp2;go_ret2;have U:=o.c;have E:=o.dm.dk.lt;have H:=U.size;have I:=b_ w1 (.cells #[X.d,.string (str nm),.int .i64 0,.int .i64 0,.bool false] 169);refine⟨X2,o.e,o.dm.below I,by simpa using U.alloc (.cells #[X.d,.string (str nm),.int .i64 0,.int .i64 0,.bool false] 169),o.f,.inr ⟨rfl,(w1:Nat),rfl,BoxO.new _ _ _,H,fun hm=>?_⟩⟩;have:=E _ hm;omega
 ·have a2:((er:Int)==0)=false:=by simp;omega
  go_wp2;go_ret2;exact⟨X2,o.e,o.dm,by simpa using o.out.c,o.f,.inl ⟨Q,rfl⟩⟩
def xk3 (X:Dw) (g:Nat) (w:World) (nm:List UInt8) (sz ct len:Nat) (R:Sd×Nat) (e:Ending) (w':World):Prop:=e=.returned (.int .i64 R.2)/\∃X',X'.d=X.d/\Dm w' X' R.1/\Chg (g::X.foot) w w'/\(∀g∈X'.foot,g∈X.foot\/(w:Nat)<=g)/\
 (if R.2=0 then LgAt w' g X.d nm (sz+len) (ct+1) else LgAt w' g X.d nm sz ct)
theorem gj5 (X:Dw) (S:Sd) (g:Nat) (nm:List UInt8) (sz ct:Nat) (L:Option Addr) (m d:Nat) (l:List It) (w:World) (f4:nm.length<=1000) (h:Dm w X S) (hg:LgAt w g X.d nm sz ct) (a9:g∉X.foot) (d1:NG<=g)
  (f5:sz<=1000000000000) (f6:ct<=1000000000) (h0:0 < m) (hm:m<=1000) (hq:Row w w L m 5 (itc l)) (hk:∀x∈l,x.ok=true/\x.fit):
  Calls prog 133 #[g,.slice L m d] w (xk3 X g w nm sz ct (Lg.batch l).length (S.append nm (Lg.batch l))):=by
 have c4:=hg.c4;have hb:=ov4 L m d l w h0 hm hq hk;have d5:=Lg.fy2 l;have f8:=hq.yw;have f9:=hg.lt;have HB:=H_ hb;have HD:=H_ h;have HG:=H_ hg;obtain⟨R,hR⟩:=n_ (S.append nm (Lg.batch l));obtain⟨len,E⟩:=n_ ((Lg.batch l).length);rw[<-hR,<-E];obtain⟨S1,er⟩:=R;have HR:=H_ hR;have b0:=H_ E;rw[<-E]at d5;clear hb h hg hk hq hR E;go_enter func133,ntmps133;go_wp2_with fail;refine HB.mono ?_;rintro e w1 ⟨A1,H,c1,rfl,O,g',h6,Q⟩;have d8:H=len:=by
  have:=O.1;rw[uq,<-b0.out]at this;omega
 obtain⟨A2,c2,hv,d9,d',a1⟩:=ay O;injection hv with e1 e2 e3;subst e1 e3;have b1:=HD.below Q;have b2:=HG.below Q;have hA:∀a,A1=some a->a.block∉X.foot:=fun a ha hm=>by
  have h2:=(a1 a ha).1;have h3:=HD.dk.lt _ hm;omega
 have U:=(Acc.start (F:=[]) (b1.below (w':=w1.drew) (ax b0_))).append (str nm) (by rw[jy];unfold maxLen;omega) A1 H c1 (Lg.batch l) o_ (Row.own O) hA;rw[xy2]at U;rw[<-HR.out]at U;have a2:Calls prog 184 #[X.d,.string (str nm),.slice A1 H c1] w1.drew fun e w'=>e=.returned (.int .i64 er)/\UpdM X w1 w' S1:=U.mono fun e w' ⟨h1,X2,h2⟩=>⟨h1,UpdM.drew h2.updM⟩;subst d8;have b3:=H_ b2;have b5:=H_ a2;have b6:=H_ Q;clear U a2 b2 b1 O Q hA a1 d9 d' HB;go_wp2_with fail;refine wp_region_held_drew (S:=fun w'=>LgAt w' g X.d nm sz ct) rfl b3.drew (fun o=>?_);refine w_v 0 o ?_ (k:=kz27);go_simp;refine w_v 1 o ?_ (k:=kz27);go_simp;refine w_v 2 o ?_ (k:=kz27);go_simp;refine w_v 3 o ?_ (k:=kz27);go_simp;refine w_v 4 o ?_ (k:=kz27);go_simp;refine w_v 5 o ?_ (k:=kz27);go_simp;refine w_v 6 o ?_ (k:=kz27);go_simp;refine w_v 7 o ?_ (k:=kz27);go_simp;refine w_v 8 o ?_ (k:=kz27);go_simp;refine w_r 9 fun K hK=>?_;go_simp
 refine m_ b5 ?_
 rintro e w3 ⟨rfl,hu⟩;go_simp;refine hK.out _ _ (LgAt.upd b3.out hu a9) ?_;clear o hK K;intro o;go_simp;refine w_v 10 o ?_ (k:=kz27);go_simp;refine w_d ?_;have z:=o;clear o b5;have b7:∃X',X'.d=X.d/\Dm w3 X' S1/\Chg X.foot w w3/\∀g∈X'.foot,g∈X.foot\/(w:Nat)<=g:=by
  obtain⟨X2,q1,q2,q3,q4⟩:=hu;refine⟨X2,q1,q2,(Chg.of_below b6.out X.foot).trans q3 (fun g hg=>.inl hg),fun g hg=>?_⟩
  rcases q4 g hg with h1|h1
  ·exact .inl h1
  ·exact .inr (g_ b6.size h1)
 have HC:=H_ b7;clear b7 hu
 by_cases he:er=0
 ·subst he
  have d2:=z.c2;have d3:=z.c3;have f2:=z.free 2;have f3:=z.free 3;have i0:IntKind.i64.wrap ((sz:Int)+(H:Int))=((sz+H:Nat):Int):=by rw[M_ _ o_];omega
  have I:=z.store 2 (.int .i64 ((sz+H:Nat):Int));have d34:=I.cell 3;simp only[T_,Q_,gE0,gE1]at d34 I;have b':=tz4 g 3 (ct:Int) (w3.setCell (g,2) (.int .i64 ((sz+H:Nat):Int))) o_ o_ d34 (I.free 3);have a5:=I.store 3 (.int .i64 ((ct:Int)+1));simp only[T_,Q_]at a5;have a6:Chg [g] w3 ((w3.setCell (g,2) (.int .i64 ((sz+H:Nat):Int))).setCell (g,3) (.int .i64 ((ct:Int)+1))):=((Chg.refl _ w3).setCell _ (.inl s_)).setCell _ (.inl s_);have C:xk3 X g w nm sz ct H (S1,0) (.returned (.int .i64 0)) ((w3.setCell (g,2) (.int .i64 ((sz+H:Nat):Int))).setCell (g,3) (.int .i64 ((ct:Int)+1))):=by
   obtain⟨X2,q1,q2,q3,q4⟩:=HC.out;have c9:g∉X2.foot:=fun hm=>by
    rcases q4 g hm with h1|h1
    ·exact a9 h1
    ·omega
   refine⟨rfl,X2,q1,q2.chg a6 (fun x hx=>by rw[c_.1 hx];exact⟨c9,d1⟩),(q3.mono (fun x hx=>.inl (f_ _ hx))).trans a6 (fun x hx=>.inl (by rw[c_.1 hx];exact p_)),q4,?_⟩;rw[if_pos rfl];exact a5
  have e4:=H_ b';have J:=H_ C;clear b' C a6 a5 I z d34 HC;go_wp2_with fail;refine e4.mono ?_;rintro e w4 ⟨rfl,rfl⟩;go_wp2;go_ret;exact J
 ·have i1:((er:Int)==0)=false:=by simp;omega
  have C:xk3 X g w nm sz ct H (S1,er) (.returned (.int .i64 er)) w3:=by
   obtain⟨X2,q1,q2,q3,q4⟩:=HC.out;refine⟨rfl,X2,q1,q2,q3.mono (fun x hx=>.inl (f_ _ hx)),q4,?_⟩;rw[if_neg he];exact z
  have J:=H_ C;clear C z HC;go_wp2;go_ret;exact J
section
open Co
namespace Sd
variable {d:Sd} {s b:List UInt8}
theorem qq1 (h:d.co.In) (s:List UInt8):Ct.Reach d.ct (d.remove s).1.ct/\bw1 (·=s) [] d.co (d.remove s).1.co 0 0:=by
 by_cases o:named s=true
 ·obtain⟨c1,c2,c3⟩:=d.ry1 (l:=[s]) (by simpa using o)
  have z:=Ct.Reach.one d.ct
  cases C:d.names.get s with
  |none=>
   unfold remove
   by_cases E:(d.call [s]).2=0
   ·rw[if_neg (by simp[E]),if_pos (by simp[C])]
    exact⟨by rw[c2];exact z,by rw[c1];exact bw1.refl h _ _⟩
   ·rw[if_pos E]
    exact⟨by rw[c2];exact z,by rw[c1];exact bw1.refl h _ _⟩
  |some i=>
   obtain⟨O,H,I⟩:=bx3 o C;refine⟨by rw[H];exact z,?_⟩;rw[I];split
   ·exact aj2 h C
   ·exact bw1.refl h _ _
 ·have J:d.call [s]=(d,10):=by unfold call;rw[if_pos (by simpa using o)]
  unfold remove;rw[J,if_pos s_];exact⟨Ct.Reach.refl _,bw1.refl h _ _⟩
theorem cq3 (h:d.co.In) (I:named s=true) (Q:d.names.get s=none) (hm:d.co.most < 64) (hb:b.length<=250000) (hq:d.co.total+b.length<=d.quota):
  Ct.Ends d.ct (d.write s b).1.ct (d.write s b).2/\bw1 (·=s) [s] d.co (d.write s b).1.co 1 b.length/\((d.write s b).2=0->(d.write s b).1.co.Now s b b.length):=by
 have hl:=ix2 h;obtain⟨c1,c2,c3⟩:=iq3 I Q (by have:d.names.length<=d.co.most:=hl;omega);unfold write
 by_cases z:d.ct.call.2=0
 ·rw[if_pos z]at c3
  rw[if_neg (by rw[c1,z];simp)];have o:=kx3 h Q;rw[<-c3]at o;obtain⟨i,g1,f1⟩:=ex4 h s;rw[<-c3]at g1 f1;have C:Ct.Reach d.ct (d.create s).1.ct:=by rw[c2];exact Ct.Reach.one _
  generalize (d.create s).1=d1 at *;have hu:=jv4 o.in_;have a7:d1.quota=d.quota:=o.quota;have a8:=o.total;obtain⟨H,U,a3⟩:=ej3 (b:=b) I g1 f1 (by simpa using hb) o_
  by_cases h2:d1.ct.call.2=0
  ·rw[if_pos h2]at a3
   rw[if_neg (by rw[H,h2];simp)];have J:=jw3 (g:=(([]:List UInt8)++b,0)) o.in_ g1 f1;rw[<-a3]at J;have n2:=Co.Now.set (f:=(([]:List UInt8)++b,0)) g1 (C_.1 f1).1;rw[<-a3]at n2;obtain⟨j,g2,f2⟩:=n2;have O:Ct.Reach d.ct (d1.append s b).1.ct:=by rw[U];exact C.step
   generalize (d1.append s b).1=d2 at *;obtain⟨b1,b2,b3⟩:=pq3 I g2 f2;have E:bw1 (·=s) [s] d.co d2.co 1 b.length:=(o.trans (J.mono (fun _ h=>h) (fun _ h=>by cases h) l_ l_)).mono (fun _ h=>h) (fun _ h=>h) o_ s_;refine⟨by rw[b1,b2];exact Ct.Ends.after O (Ct.Ends.one _),?_,fun h3=>?_⟩
   ·rw[b3]
    split
    ·exact(E.trans ((jw3 (g:=(([]:List UInt8)++b,(([]:List UInt8)++b).length)) J.in_ g2 f2).mono (fun _ h=>h) (fun _ h=>by cases h) l_ l_)).mono (fun _ h=>h) (fun _ h=>h) o_ s_
    ·exact E
   ·rw[b1]at h3
    rw[b3,if_pos h3];exact Co.Now.set (f:=(([]:List UInt8)++b,(([]:List UInt8)++b).length)) g2 (C_.1 f2).1
  ·rw[if_neg h2]at a3
   rw[if_pos (by rw[H];exact h2)];refine⟨by rw[H,U];exact Ct.Ends.after C (Ct.Ends.one _),by rw[a3];exact o.mono (fun _ h=>h) (fun _ h=>h) l_ z_,fun h3=>absurd (by rw[<-H];exact h3) h2⟩
 ·rw[if_neg z]at c3
  rw[if_pos (by rw[c1];exact z)];refine⟨by rw[c1,c2];exact Ct.Ends.one _,by rw[c3];exact(bw1.refl h _ _).mono (fun _ h=>h) (fun _ h=>h) z_ z_,fun h3=>absurd (by rw[<-c1];exact h3) z⟩
end Sd
namespace Co
variable {c c':Co} {s t:List UInt8} {l:Nat}
end Co
namespace Mw
open Mn
def NR (u:List UInt8):Prop:=u=gy\/u=kCur\/(number u kMan).isSome=true
theorem gk2 (nm:List UInt8):∀(l:List (List UInt8)) (d:Sd),d.co.In->Ct.Reach d.ct (sweep nm l d).ct/\bw1 (fun u=>u≠nm/\(number u kMan).isSome=true) [] d.co (sweep nm l d).co 0 0
 |[],d,h=>⟨Ct.Reach.refl _,bw1.refl h _ _⟩
 |o::r,d,h=>by
  unfold sweep;split
  ·rename_i z
   simp only[N_,bt_,beq_eq_false_iff_ne]at z;obtain⟨H,C⟩:=Sd.qq1 h o;obtain⟨b1,b2⟩:=gk2 nm r (d.remove o).1 C.in_;exact⟨H.trans b1,(C.mono (fun u E=>⟨by rw[E];exact z.2,by rw[E];exact z.1⟩) (fun _ h=>h) l_ l_).trans b2⟩
  ·exact gk2 nm r d h
end Mw
namespace Gw
open Mn
open Mw (kCur gy headB sweep man NR kk2 iw1 lq1 iq1 ik1 vk dy1 fv1)
variable {d:Sd} {M:Gs} {nm:List UInt8}
theorem rk5 {k:Nat} {b:List UInt8} (J:1<=k) (O:k<=1073741824) (h:d.co.In) (Q:d.co.Now kCur (headB k) (headB k).length) (U:d.co.Now (man k) b b.length):
  Ct.Ends d.ct (fin d M (man k)).1.ct (fin d M (man k)).2.2/\
  (((fin d M (man k)).2.2=0/\(fin d M (man k)).2.1={ M with name:=man k,count:=1 }/\bw1 NR [] d.co (fin d M (man k)).1.co 0 0/\(fin d M (man k)).1.co.most<=d.co.names.length/\(fin d M (man k)).1.co.Held kCur (headB k) (headB k).length/\(fin d M (man k)).1.co.Held (man k) b b.length)\/
   ((fin d M (man k)).2.2≠0/\(fin d M (man k)).2.1={ M with name:=man k,count:=1,broken:=true }/\(fin d M (man k)).1.co=d.co)):=by
 obtain⟨c1,c2,c3⟩:=Sd.pw2 (d:=d);unfold fin
 by_cases o:d.ct.call.2=0
 ·rw[if_pos o]at c3
  rw[if_neg (by rw[c1,o];simp)];have H:=ux1 h;rw[<-c3]at H;have e1:=Co.ay2 d.co;rw[<-c3]at e1;have z:=Co.Now.ak Q;have C:=Co.Now.ak U;rw[<-c3]at z C;have hr:Ct.Reach d.ct (d.ak).1.ct:=by rw[c2];exact Ct.Reach.one _
  generalize (d.ak).1=d1 at *;obtain⟨s1,E⟩:=Mw.gk2 (man k) d1.list d1 H.in_;have I:¬(kCur≠man k/\(number kCur kMan).isSome=true):=fun x=>by rw[fv1]at x;exact absurd x.2 s_
  refine⟨Ct.Ends.none (hr.trans s1),.inl ⟨rfl,rfl,?_,?_,E.held _ I _ _ z,E.held _ (fun x=>x.1 rfl) _ _ C⟩⟩
  ·exact((H.mono (fun _ h=>h.elim) (fun _ h=>h) l_ l_).trans (E.mono (fun u hu=>.inr (.inr hu.2)) (fun _ h=>h) l_ l_))
  ·have:=E.most
   simp only at *;omega
 ·rw[if_neg o]at c3
  rw[if_pos (by rw[c1];exact o)];exact⟨by simp only[c1,c2];exact Ct.Ends.one _,.inr ⟨by rw[c1];exact o,rfl,c3⟩⟩
variable {n k:Nat} {t b:List UInt8} {l:Nat}
end Gw
end
end Go.Proofs.YtfbkjjdfboagfaaGreatDoor
