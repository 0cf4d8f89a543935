/- Some of the texts. No conditions. -/
import Derived.Test.YtfbkjjdfboagfaaGreatDoorBunAD
import Derived.Test.YtfbkjjdfboagfaaGreatDoorBunAC
import Derived.Shelf.Spec.SlicesInsert
import Derived.Test.YtfbkjjdfboagfaaGreatDoorBunAF
import Derived.RangeFuncNested

set_option linter.unusedSimpArgs false
set_option linter.unusedVariables false
set_option maxRecDepth 100000
set_option maxHeartbeats 16000000
namespace Go.Proofs.YtfbkjjdfboagfaaGreatDoor
open Go.Proofs.Tryz Go Go.RowKit Go.Lib Go.Shelf
theorem xx3 (K:Nat) (hF:∀args w,(callFunc K args).run prog w=.ok (.enter K args) w) (cap:Array Value) (P:It->Bool) (A:Option Addr) (n c:Nat) (l:List It) (w:World) (hn:n<=1000000) (Q:Row w.heap.size w A n 5 (itc l))
  (U:∀x w1,Below w.heap.size w w1->Calls prog K (#[x.val] ++cap) w1 fun e w'=>e=.returned (.bool (P x))/\Below w1.heap.size w1 w'):
  Calls prog 130 #[.slice A n c,.func (.func K) #[] cap] w fun e w'=>e=.returned (.int .i64 (fidx P l))/\Below w.heap.size w w':=by
 have a5:=Q.yw;have HK:=H_ U;have HF:=H_ hF;clear U hF;go_enter func130,ntmps130;go_wp2
 go_loopw [8] (fun i wr=>∃k:Nat,k<=n/\i=.int .i64 k/\Hid ((l.take k).any P=false)/\Below w.heap.size w wr) (fun i _=>n - (intOf i).toNat)
 case atStart=>exact⟨0,A_ _,rfl,H_ rfl,Below.refl _ _⟩
 case round=>
  obtain⟨k,hk,rfl,E,o⟩:=hrel
  by_cases H:k < n
  ·obtain⟨a,I,rfl,a8,c0,c1,c2,c3,c4⟩:=(Q.below o).it H
   have ht:=mx1 (P:=P) I;have hs:=fun h1=>gy1 (P:=P) I E.out h1;generalize l[k]=f at *;have HT:=H_ ht;have HS:=H_ hs;clear ht hs I;have J:=HK.out f wr o;unfold It.val at J;generalize hp:P f=p at J;have HP:=H_ hp;clear hp;go_wp2_with fail;rw[HF.out,Oper.upon_enter];refine J.mono ?_;rintro e w1 ⟨rfl,C⟩
   cases p with
   |true=>
    go_wp2;go_ret;exact⟨wq1 (HS.out HP).symm,az o C⟩
   |false=>
    go_wp2;go_roundw
    case rel=>exact⟨k+1,o_,by go_num,H_ (by rw[HT.out,E.out,HP.out];rfl),az o C⟩
    case measure=>simp[intOf];omega
  ·have z:fidx P l=-1:=av1 (by
    have O:=E.out
    rwa [i_ o_]at O)
   have HA:=H_ z;clear z;go_wp2;go_ret;exact⟨wq1 HA.symm,o⟩
theorem vw1 (K:Nat) (hF:∀args w,(callFunc K args).run prog w=.ok (.enter K args) w) (cap:Array Value) (P:It->Bool) (A:Option Addr) (n c:Nat) (l:List It) (w:World) (H:n<=1000000) (I:Row w.heap.size w A n 5 (itc l))
  (C:∀x w1,Below w.heap.size w w1->Calls prog K (#[x.val] ++cap) w1 fun e w'=>e=.returned (.bool (P x))/\Below w1.heap.size w1 w'):
  Calls prog 62 #[.slice A n c,.func (.func K) #[] cap] w fun e w'=>e=.returned (.bool (l.any P))/\Below w.heap.size w w':=by
 have o:=xv1 P l;have E:=xx3 K hF cap P A n c l w H I C;clear C;generalize fidx P l=i at *;have z:=H_ o;clear o;go_enter func62,ntmps62;go_wp2_with fail;refine E.mono ?_;rintro e w1 ⟨rfl,J⟩;clear E;go_wp2;go_ret;exact⟨kw1 z,J⟩
theorem wj2 (l:List It):l.any (fun x=>!x.ok)= !l.all It.ok:=by
 induction l with
 |nil=>rfl
 |cons a l o=>simp[o,Bool.not_and]
theorem fy4 {l:List It} {j:Nat} (h:j+1 < l.length):decide (yj (l.take (j+2)))=(decide (yj (l.take (j+1))) &&It.less l[j] l[j+1]):=by
 have e:l.take (j+2)=l.take (j+1)++[l[j+1]]:=v_ h;have iff:yj (l.take (j+2))↔yj (l.take (j+1))/\It.less l[j] l[j+1]=true:=by
  rw[e];unfold yj;rw[bs_];constructor
  ·rintro⟨h1,_,h2⟩
   exact⟨h1,h2 _ (aJ_.2 ⟨j,o_,rfl⟩) _ s_⟩
  ·rintro⟨h1,h2⟩
   refine⟨h1,cx_ _ _,fun a o b z=>?_⟩;obtain rfl:b=l[j+1]:=by simpa using z
   obtain⟨i,hi,rfl⟩:=aJ_.1 o
   rcases ad_ i j with h3|h3
   ·have h4:=ay_.1 h1 i j (by simp;omega) (by simp;omega) h3
    simp only[List.getElem_take]at h4;exact It.yw1 h4 h2
   ·have:i=j:=o_
    subst this;exact h2
 cases h3:It.less l[j] l[j+1] <;>simp[iff,h3]
theorem bz5 {l:List It} {k:Nat} (h:decide (yj (l.take k))=false):decide (yj l)=false:=by
 simp only[decide_eq_false_iff_not]at h ⊢;exact fun h2=>h (h2.sublist (cv_ _ _))
theorem fk5 (a:It) (w:World):Calls prog 129 #[a.val] w fun e w'=>e=.returned (.bool (!a.ok))/\Below w w w':=by
 have o:=fun W=>tz1 a W;unfold It.val at o ⊢;go_enter func129,ntmps129;go_wp2_with fail;refine(o _).mono ?_;rintro e w1 ⟨rfl,z⟩;go_wp2;go_ret;exact⟨rfl,az (b_ _ _) z⟩
theorem fw5 (a:It) (w:World):Calls prog 100 #[a.val] w fun e w'=>e=.returned (.bool (!a.ok))/\Below w w w':=by
 have o:=fun W=>tz1 a W;unfold It.val at o ⊢;go_enter func100,ntmps100;go_wp2_with fail;refine(o _).mono ?_;rintro e w1 ⟨rfl,z⟩;go_wp2;go_ret;exact⟨rfl,az (b_ _ _) z⟩
theorem kx4 (a:It) (w:World):Calls prog 214 #[a.val] w fun e w'=>e=.returned (.bool (!a.ok))/\Below w w w':=by
 have o:=fun W=>tz1 a W;unfold It.val at o ⊢;go_enter func214,ntmps214;go_wp2_with fail;refine(o _).mono ?_;rintro e w1 ⟨rfl,z⟩;go_wp2;go_ret;exact⟨rfl,az (b_ _ _) z⟩
theorem wj1 (A:Option Addr) (n c:Nat) (l:List It) (w:World) (o:n<=1000000) (z:Row w w A n 5 (itc l)):
  Calls prog 60 #[.slice A n c] w fun e w'=>e=.returned (.bool (l.all It.ok))/\Below w w w':=by
 have h:=vw1 129 (fun _ _=>rfl) #[] (fun x=>!x.ok) A n c l w o z (fun x w1 _=>fk5 x w1);rw[wj2]at h;go_enter func60,ntmps60;go_wp2_with fail;refine h.mono ?_;rintro e w1 ⟨rfl,C⟩;clear h;go_wp2;go_ret;exact⟨ik s_,C⟩
theorem kz18 {P S a oi v} (h:Hv P S a oi v:=by intro w o;(obtain⟨c0,c1,c2,c3,c4,d0,d1,d2,d3,d4⟩:=KC.out w o);go_simp;try (with_reducible rfl)):Hv P S a oi v:=h
theorem oq2 (A:Option Addr) (n c:Nat) (l:List It) (w:World) (hn:n<=1000000) (hr:Row w w A n 5 (itc l)):
  Calls prog 213 #[.slice A n c] w fun e w'=>e=.returned (.bool (decide (yj l)))/\Below w w w':=by
 have b5:=hr.yw;go_enter func213,ntmps213;go_wp2
 go_loopw [3] (fun i wr=>∃j k:Nat,Hid (k=j+1)/\(j+1<=n\/j=0)/\i=.int .i64 k/\Hid (decide (yj (l.take (j+1)))=true)/\Below w w wr) (fun i _=>n - (intOf i).toNat)
 case atStart=>exact⟨0,1,H_ rfl,.inr rfl,rfl,H_ (by
  cases l with
  |nil=>rfl
  |cons a r=>simp[yj]),Below.refl _ _⟩
 case round=>
  obtain⟨j,k,I,hj,rfl,hR,z⟩:=hrel
  by_cases b6:k < n
  ·have J:j+1 < n:=by have:=I.out;omega
   obtain⟨a,hl,rfl,O,c0,c1,c2,c3,c4⟩:=(hr.below z).it (k:=j) o_;obtain⟨a2,b7,ea,b0,hd⟩:=(hr.below z).it J;injection ea with ea;subst ea;have ht:=fy4 (l:=l) (j:=j) o_;rw[hR.out,cf_]at ht;have E:=fun h=>bz5 (l:=l) (k:=j+2) h;generalize l[j]=x at *;generalize l[j+1]=y at *;rw[<-I.out]at hd;have a6:(k:Int) - 1=(j:Int):=by have:=I.out;omega
   have b8:IntKind.i64.wrap (j:Int)=(j:Int):=M_ _ o_;have b9:(j:Int) < (n:Int):=o_
   have C:=fun W=>gx1 x y W;unfold It.val at C;obtain⟨b,Q⟩:=n_ (x.less y);rw[<-Q]at C ht;have U:∀w',Below wr wr w'->w'.cell? (a.add (j *5))=some (.int .i64 x.s)/\w'.cell? ⟨(a.add (j *5)).block,(a.add (j *5)).off+1,none⟩=some (.int .i64 x.k)/\w'.cell? ⟨(a.add (j *5)).block,(a.add (j *5)).off+2,none⟩=some (.int .u64 x.t)/\w'.cell? ⟨(a.add (j *5)).block,(a.add (j *5)).off+3,none⟩=some (.int .u64 x.v)/\w'.cell? ⟨(a.add (j *5)).block,(a.add (j *5)).off+4,none⟩=some (.int .i64 x.x)/\
     w'.cell? (a.add (k *5))=some (.int .i64 y.s)/\w'.cell? ⟨(a.add (k *5)).block,(a.add (k *5)).off+1,none⟩=some (.int .i64 y.k)/\w'.cell? ⟨(a.add (k *5)).block,(a.add (k *5)).off+2,none⟩=some (.int .u64 y.t)/\w'.cell? ⟨(a.add (k *5)).block,(a.add (k *5)).off+3,none⟩=some (.int .u64 y.v)/\w'.cell? ⟨(a.add (k *5)).block,(a.add (k *5)).off+4,none⟩=some (.int .i64 y.x):=fun w' Q=>by
    have h1:=ItAt.below (B:=(wr:Nat)) (w':=w') ⟨c0,c1,c2,c3,c4⟩ (L_ O z.size) Q;have h2:=hd.below (B:=(wr:Nat)) (w':=w') (L_ O z.size) Q;exact⟨h1.c0,h1.c1,h1.c2,h1.c3,h1.c4,h2.c0,h2.c1,h2.c2,h2.c3,h2.c4⟩
   have b':IntKind.i64.wrap ((k:Int) - 1)=(j:Int):=by rw[a6];exact M_ _ o_
   have KC:=H_ U;have HL:=H_ C;have HT:=H_ ht;have HO:=H_ E;clear U C ht E Q hd c0 c1 c2 c3 c4;go_wp2_with fail;refine w_h wr fun o=>?_;refine w_v 0 o ?_ (k:=kz18);go_simp;refine w_v 1 o ?_ (k:=kz18);go_simp;refine w_v 2 o ?_ (k:=kz18);go_simp;refine w_v 3 o ?_ (k:=kz18);go_simp;refine w_v 4 o ?_ (k:=kz18);go_simp;refine w_v 5 o ?_ (k:=kz18);go_simp;refine w_v 6 o ?_ (k:=kz18);go_simp;refine w_v 7 o ?_ (k:=kz18);go_simp;refine w_v 8 o ?_ (k:=kz18);go_simp;refine w_r 9 fun K hK=>?_;go_simp
   with_reducible refine(HL.out _).mono ?_
   rintro e w1 ⟨rfl,a7⟩;go_simp;refine hK.out _ _ (o.trans (a7.mono o.size)) ?_;clear o hK K;intro o;go_simp;refine w_v 10 o ?_ (k:=kz18);go_simp;refine w_d ?_;have a0:=z.trans (o.mono z.size);clear o KC HL
   cases b with
   |true=>
    go_wp2;go_roundw
    case rel=>exact⟨k,k+1,H_ rfl,.inl o_,by go_num,H_ (by rw[I.out];exact HT),a0⟩
    case measure=>simp[intOf];omega
   |false=>
    go_wp2;go_ret;exact⟨ik (HO.out HT).symm,a0⟩
  ·have H:decide (yj l)=true:=by
    have:=hR.out
    rwa [i_ (by have:=I.out;omega)]at this
   have HF:=H_ H;clear H;go_wp2;go_ret;exact⟨ik HF.symm,z⟩
theorem lq2 {l:List It} (h:yj l) (x:It) {k:Nat} (o:k < l.length):It.less l[k] x=decide (k < pos l x):=by
 obtain⟨h1,h2⟩:=dy2 h x
 rcases ad_ k (pos l x) with h3|h3
 ·have:l[k]∈l.take (pos l x):=aJ_.2 ⟨k,o_,rfl⟩
  rw[h1]at this;simp[(ac_.1 this).2,h3]
 ·have:l[k]∈l.drop (pos l x):=bJ_.2 ⟨k - pos l x,by simp;omega,by simp[Nat.add_sub_cancel' h3]⟩
  rw[h2]at this;have h4:=(ac_.1 this).2;simp only[bt_]at h4;rw[h4];simp;omega
def pcmp (a b:It):Int:=if a.less b=true then -1 else 1
theorem rk2 (a b:It) (w:World):Calls prog 225 #[a.val,b.val] w fun e w'=>e=.returned (.int .i64 (pcmp a b))/\Below w w w':=by
 have o:=fun W=>gx1 a b W;have z:=(b_ w (.cells #[a.s,a.k,[a.t],[a.v],a.x] 33)).alloc s_ (.cells #[b.s,b.k,[b.t],[b.v],b.x] 33);unfold pcmp;unfold It.val at o ⊢;generalize a.less b=p at *;have H:=H_ o;clear o;go_enter func225,ntmps225;go_wp2_with fail;refine(H.out _).mono ?_;rintro e w1 ⟨rfl,C⟩;have E:=az z C
 cases p
 all_goals
  go_wp2;go_ret;exact⟨rfl,E⟩
theorem kz11 {P S a oi v} (h:Hv P S a oi v:=by intro w o;(obtain⟨⟨c0,c1,c2,c3,c4⟩,d0,d1,d2,d3,d4⟩:=KC.out w o);go_simp;try (with_reducible rfl)):Hv P S a oi v:=h
theorem kz12 {P S a oi v} (h:Hv P S a oi v:=by intro w o;skip;go_simp;try (with_reducible rfl)):Hv P S a oi v:=h
theorem gq3 (A:Option Addr) (n c:Nat) (l:List It) (x:It) (w:World) (hn:n<=1000000) (hR:yj l) (hr:Row w w A n 5 (itc l)):
  Calls prog 224 #[.slice A n c,x.val,.func (.func 225) #[] #[]] w fun e w'=>e=.returned (.tuple #[.int .i64 (pos l x:Int),.bool false])/\Below w w w':=by
 have b9:=hr.yw;have b0:=dy3 l x;have E:=b_ w (.cells #[x.s,x.k,[x.t],[x.v],x.x] 33);have U:=BoxO.new w #[x.s,x.k,[x.t],[x.v],x.x] 33;obtain⟨r,a0⟩:=n_ (pos l x);rw[<-a0]at b0 ⊢;have a6:=H_ a0;clear a0;unfold It.val;go_enter func224,ntmps224;go_wp2_with fail;generalize w.alloc (.cells #[x.s,x.k,[x.t],[x.v],x.x] 33)=V at *;obtain⟨g,hg⟩:=n_ (w:Nat);rw[<-hg]at U ⊢;clear hg
 go_loopw [9,10] (fun i j wr=>∃p q:Nat,p<=r/\r<=q/\q<=n/\i=.int .i64 p/\j=.int .i64 q/\Below V V wr) (fun i j _=>(intOf j).toNat - (intOf i).toNat)
 case atStart=>exact⟨0,n,A_ _,o_,B_ _,rfl,rfl,Below.refl _ _⟩
 case round=>
  obtain⟨p,q,hp,hq,b1,rfl,rfl,C⟩:=hrel;have a1:∀w',Below wr wr w'->Below V V w':=fun w' h=>C.trans (h.mono C.size)
  by_cases d5:p < q
  ·obtain⟨m,hm⟩:=n_ ((p+q) / 2)
   have d7:p<=m/\m < q:=o_
   have d8:(m:Int) < (n:Int):=o_
   have d9:IntKind.i64.wrap (m:Int)=(m:Int):=M_ _ o_;have b2:=H_ (show ((p:Int)+(q:Int)) / 2=(m:Int) by omega);clear hm;obtain⟨a,hl,rfl,a2,hd⟩:=((hr.below E).up E.size|>.below C).it (k:=m) o_;have I:=lq2 hR x hl;generalize l[m]=y at *;have z:=fun W=>rk2 y x W;unfold It.val pcmp at z;rw[I]at z;have J:∀w',Below wr wr w'->(w'.cell? (a.add (m *5))=some (.int .i64 y.s)/\w'.cell? ⟨(a.add (m *5)).block,(a.add (m *5)).off+1,none⟩=some (.int .i64 y.k)/\w'.cell? ⟨(a.add (m *5)).block,(a.add (m *5)).off+2,none⟩=some (.int .u64 y.t)/\w'.cell? ⟨(a.add (m *5)).block,(a.add (m *5)).off+3,none⟩=some (.int .u64 y.v)/\w'.cell? ⟨(a.add (m *5)).block,(a.add (m *5)).off+4,none⟩=some (.int .i64 y.x))/\w'.cell? g=some (.int .i64 x.s)/\w'.cell? (g,1)=some (.int .i64 x.k)/\w'.cell? (g,2)=some (.int .u64 x.t)/\w'.cell? (g,3)=some (.int .u64 x.v)/\w'.cell? (g,4)=some (.int .i64 x.x):=fun w' O=>by
    have h1:=hd.below (B:=(wr:Nat)) (w':=w') (L_ a2 C.size) O;have h2:=(U.below C).below O;exact⟨⟨h1.c0,h1.c1,h1.c2,h1.c3,h1.c4⟩,h2.cell 0,h2.cell 1,h2.cell 2,h2.cell 3,h2.cell 4⟩
   have KC:=H_ J;have Q:=H_ z;clear J z hd I;rw[<-a6.out]at Q;obtain⟨b,O⟩:=n_ (decide (m < r));rw[<-O]at Q;go_wp2_with fail;rw[b2.out];refine w_h wr fun o=>?_;refine w_v 0 o ?_ (k:=kz11);go_simp;refine w_v 1 o ?_ (k:=kz11);go_simp;refine w_v 2 o ?_ (k:=kz11);go_simp;refine w_v 3 o ?_ (k:=kz11);go_simp;refine w_v 4 o ?_ (k:=kz11);go_simp;refine w_v 5 o ?_ (k:=kz11);go_simp;refine w_r 6 fun K hK=>?_;go_simp
   with_reducible refine(Q.out _).mono ?_
   rintro e w1 ⟨rfl,a4⟩;go_simp;refine hK.out _ _ (o.trans (a4.mono o.size)) ?_;clear o hK K;intro o;go_simp;refine w_v 7 o ?_ (k:=kz11);go_simp;refine w_d ?_;have H:=a1 _ o;clear o KC Q
   cases b with
   |true=>
    have b5:m < r:=by simpa using O.symm
    go_wp2;go_roundw
    case rel=>exact⟨m+1,q,o_,hq,b1,by go_num,rfl,H⟩
    case measure=>simp[intOf];omega
   |false=>
    have b5:¬m < r:=by simpa using O.symm
    go_wp2;go_roundw
    case rel=>exact⟨p,m,hp,o_,o_,rfl,rfl,H⟩
    case measure=>simp[intOf];omega
  ·have b6:p=r:=o_
   subst b6;have d':((p:Int) < (q:Int))=False:=eq_false o_
   by_cases e0:p < n
   ·have a8:(p:Int) < (n:Int):=o_
    obtain⟨a,hl,rfl,a2,hd⟩:=((hr.below E).up E.size|>.below C).it (k:=p) o_;have I:=lq2 hR x hl;generalize l[p]=y at *;have z:=fun W=>rk2 y x W;unfold It.val pcmp at z;rw[I]at z;have J:∀w',Below wr wr w'->(w'.cell? (a.add (p *5))=some (.int .i64 y.s)/\w'.cell? ⟨(a.add (p *5)).block,(a.add (p *5)).off+1,none⟩=some (.int .i64 y.k)/\w'.cell? ⟨(a.add (p *5)).block,(a.add (p *5)).off+2,none⟩=some (.int .u64 y.t)/\w'.cell? ⟨(a.add (p *5)).block,(a.add (p *5)).off+3,none⟩=some (.int .u64 y.v)/\w'.cell? ⟨(a.add (p *5)).block,(a.add (p *5)).off+4,none⟩=some (.int .i64 y.x))/\w'.cell? g=some (.int .i64 x.s)/\w'.cell? (g,1)=some (.int .i64 x.k)/\w'.cell? (g,2)=some (.int .u64 x.t)/\w'.cell? (g,3)=some (.int .u64 x.v)/\w'.cell? (g,4)=some (.int .i64 x.x):=fun w' O=>by
     have h1:=hd.below (B:=(wr:Nat)) (w':=w') (L_ a2 C.size) O;have h2:=(U.below C).below O;exact⟨⟨h1.c0,h1.c1,h1.c2,h1.c3,h1.c4⟩,h2.cell 0,h2.cell 1,h2.cell 2,h2.cell 3,h2.cell 4⟩
    have KC:=H_ J;have Q:=H_ z;clear J z hd I;rw[<-a6.out]at Q;simp only[Nat.lt_irrefl,decide_false,ai_,if_false]at Q;go_wp2_with fail;refine w_h wr fun o=>?_;refine w_v 0 o ?_ (k:=kz11);go_simp;refine w_v 1 o ?_ (k:=kz11);go_simp;refine w_v 2 o ?_ (k:=kz11);go_simp;refine w_v 3 o ?_ (k:=kz11);go_simp;refine w_v 4 o ?_ (k:=kz11);go_simp;refine w_v 5 o ?_ (k:=kz11);go_simp;refine w_v 6 o ?_ (k:=kz11);go_simp;refine w_v 7 o ?_ (k:=kz11);go_simp;refine w_v 8 o ?_ (k:=kz11);go_simp;refine w_v 9 o ?_ (k:=kz11);go_simp;refine w_v 10 o ?_ (k:=kz11);go_simp;refine w_r 11 fun K hK=>?_;go_simp
    with_reducible refine(Q.out _).mono ?_
    rintro e w1 ⟨rfl,a4⟩;go_simp;refine hK.out _ _ (o.trans (a4.mono o.size)) ?_;clear o hK K;intro o;go_simp;refine w_v 12 o ?_ (k:=kz11);go_simp;refine w_v 13 o ?_ (k:=kz11);go_simp;refine w_v 14 o ?_ (k:=kz11);go_simp;refine w_v 15 o ?_ (k:=kz11);go_simp;refine w_d ?_;have H:=az E (a1 _ o);clear o KC Q;go_wp2;go_ret2;exact⟨rfl,H⟩
   ·have a8:((p:Int) < (n:Int))=False:=eq_false o_
    go_wp2_with fail;refine w_h wr fun o=>?_;refine w_v 0 o ?_ (k:=kz12);go_simp;refine w_v 1 o ?_ (k:=kz12);go_simp;refine w_v 2 o ?_ (k:=kz12);go_simp;refine w_v 3 o ?_ (k:=kz12);go_simp;refine w_v 4 o ?_ (k:=kz12);go_simp;refine wpT0 (i:=5) o ?_;go_simp;refine wpT0 (i:=6) o ?_;go_simp;refine wpT0 (i:=7) o ?_;go_simp;refine wpT0 (i:=8) o ?_;go_simp;refine wpT0 (i:=9) o ?_;go_simp;refine wpT0 (i:=10) o ?_;go_simp;refine wpT0 (i:=11) o ?_;go_simp;refine wpT0 (i:=12) o ?_;go_simp;refine w_v 13 o ?_ (k:=kz12);go_simp;refine w_v 14 o ?_ (k:=kz12);go_simp;refine w_v 15 o ?_ (k:=kz12);go_simp;refine w_d ?_;have H:=az E (a1 _ o);go_wp2;go_ret2;exact⟨rfl,H⟩
theorem jq3 {l:List It} (h:yj l) (x:It) (C:pos l x < l.length):It.same l[pos l x] x=l.any (fun y=>It.same y x):=by
 cases E:It.same l[pos l x] x with
 |true=>exact(aF_.2 ⟨_,w_ _,E⟩).symm
 |false=>
  symm
  rw[ab_];intro y H o;obtain⟨i,hi,rfl⟩:=aI_ H;have h1:=lq2 h x hi;have h2:=lq2 h x C;rw[It.same_iff]at o;have h3:It.less l[i] x=false:=by rw[It.sz1];omega
  rw[h3]at h1;have h4:pos l x<=i:=by simpa using h1.symm
  rcases ad_ (pos l x) i with h5|h5
  ·have z:=ay_.1 h _ _ C hi h5
   have I:It.less l[pos l x] x=false:=by rw[h2];simp
   rw[It.bq1]at z;rw[It.sz1]at I;omega
  ·have z:i=pos l x:=o_
   subst z;have:It.same l[pos l x] x=true:=by rw[It.same_iff];exact o
   rw[E]at this
   cases this
theorem kx2 {l:List It} (h:yj l) (x:It) (C:¬pos l x < l.length):l.any (fun y=>It.same y x)=false:=by
 rw[ab_];intro y z o;obtain⟨i,hi,rfl⟩:=aI_ z;have h1:=lq2 h x hi;rw[It.same_iff]at o;have h3:It.less l[i] x=false:=by rw[It.sz1];omega
 rw[h3]at h1;have h4:pos l x<=i:=by simpa using h1.symm
 omega
theorem eq3 (A:Option Addr) (n c:Nat) (l:List It) (x:It) (w:World) (hn:n<=1000000) (hR:yj l) (hr:Row w w A n 5 (itc l)):
  Calls prog 167 #[.slice A n c,x.val] w fun e w'=>e=.returned (.tuple #[.int .i64 (pos l x:Int),.bool (l.any fun y=>y.same x)])/\Below w w w':=by
 have b7:=hr.yw;have b8:=dy3 l x;have C:=b_ w (.cells #[x.s,x.k,[x.t],[x.v],x.x] 33);have Q:=BoxO.new w #[x.s,x.k,[x.t],[x.v],x.x] 33;have I:=gq3 A n c l x (w.alloc (.cells #[x.s,x.k,[x.t],[x.v],x.x] 33)) hn hR ((hr.below C).up C.size);unfold It.val at I ⊢;have U:=fun h=>jq3 hR x h;have H:=kx2 hR x;generalize (l.any fun y=>y.same x)=b at *;generalize a0:pos l x=r at *;have a9:=H_ U;have a1:=H_ H;have b9:=H_ a0;clear U H a0;have a2:=H_ I;clear I;go_enter func167,ntmps167;go_wp2_with fail;refine a2.mono ?_;rintro e W ⟨rfl,z⟩;generalize w.alloc (.cells #[x.s,x.k,[x.t],[x.v],x.x] 33)=V at *;obtain⟨g,hg⟩:=n_ (w:Nat);rw[<-hg]at Q ⊢;clear hg a2
 by_cases b':r < n
 ·have a4:(r:Int) < (n:Int):=o_
  obtain⟨a,hl,rfl,a',hd⟩:=((hr.below C).up C.size|>.below z).it (k:=r) o_;have a5:=a9.out o_;generalize l[r]=y at *;have E:=fun W=>fw2 y x W;unfold It.val at E;rw[a5]at E;have a6:∀w',Below W.heap.size W w'->(w'.cell? (a.add (r *5))=some (.int .i64 y.s)/\w'.cell? ⟨(a.add (r *5)).block,(a.add (r *5)).off+1,none⟩=some (.int .i64 y.k)/\w'.cell? ⟨(a.add (r *5)).block,(a.add (r *5)).off+2,none⟩=some (.int .u64 y.t)/\w'.cell? ⟨(a.add (r *5)).block,(a.add (r *5)).off+3,none⟩=some (.int .u64 y.v)/\w'.cell? ⟨(a.add (r *5)).block,(a.add (r *5)).off+4,none⟩=some (.int .i64 y.x))/\w'.cell? g=some (.int .i64 x.s)/\w'.cell? (g,1)=some (.int .i64 x.k)/\w'.cell? (g,2)=some (.int .u64 x.t)/\w'.cell? (g,3)=some (.int .u64 x.v)/\w'.cell? (g,4)=some (.int .i64 x.x):=fun w' hb=>by
   have h1:=hd.below (B:=W.heap.size) (w':=w') (L_ a' z.size) hb;have h2:=(Q.below z).below hb;exact⟨⟨h1.c0,h1.c1,h1.c2,h1.c3,h1.c4⟩,h2.cell 0,h2.cell 1,h2.cell 2,h2.cell 3,h2.cell 4⟩
  have KC:=H_ a6;have HL:=H_ E;clear a6 E hd a5;go_wp2_with fail;refine w_h W fun o=>?_;refine w_v 0 o ?_ (k:=kz11);go_simp;refine w_v 1 o ?_ (k:=kz11);go_simp;refine w_v 2 o ?_ (k:=kz11);go_simp;refine w_v 3 o ?_ (k:=kz11);go_simp;refine w_v 4 o ?_ (k:=kz11);go_simp;refine w_v 5 o ?_ (k:=kz11);go_simp;refine w_v 6 o ?_ (k:=kz11);go_simp;refine w_v 7 o ?_ (k:=kz11);go_simp;refine w_v 8 o ?_ (k:=kz11);go_simp;refine w_v 9 o ?_ (k:=kz11);go_simp;refine w_v 10 o ?_ (k:=kz11);go_simp;refine w_r 11 fun K hK=>?_;go_simp
  with_reducible refine(HL.out _).mono ?_
  rintro e w1 ⟨rfl,b0⟩;go_simp;refine hK.out _ _ (o.trans (b0.mono o.size)) ?_;clear o hK K;intro o;go_simp;refine w_v 12 o ?_ (k:=kz11);go_simp;refine w_v 13 o ?_ (k:=kz11);go_simp;refine w_v 14 o ?_ (k:=kz11);go_simp;refine w_d ?_;have J:=az C (z.trans (o.mono z.size));clear o KC HL;go_wp2;go_ret2;exact⟨rfl,J⟩
 ·have O:=a1.out o_
  have O:=O;subst O;have a4:((r:Int) < (n:Int))=False:=eq_false o_;go_wp2_with fail;refine w_h W fun o=>?_;refine w_v 0 o ?_ (k:=kz12);go_simp;refine w_v 1 o ?_ (k:=kz12);go_simp;refine w_v 2 o ?_ (k:=kz12);go_simp;refine w_v 3 o ?_ (k:=kz12);go_simp;refine w_v 4 o ?_ (k:=kz12);go_simp;refine w_v 5 o ?_ (k:=kz12);go_simp;refine wpT0 (i:=6) o ?_;go_simp;refine wpT0 (i:=7) o ?_;go_simp;refine wpT0 (i:=8) o ?_;go_simp;refine wpT0 (i:=9) o ?_;go_simp;refine wpT0 (i:=10) o ?_;go_simp;refine wpT0 (i:=11) o ?_;go_simp;refine w_v 12 o ?_ (k:=kz12);go_simp;refine w_v 13 o ?_ (k:=kz12);go_simp;refine w_v 14 o ?_ (k:=kz12);go_simp;refine w_d ?_;have J:=az C (z.trans (o.mono z.size));go_wp2;go_ret2;exact⟨rfl,J⟩
def It.none_:It:=⟨0,0,0,0,0⟩
def tkey (s:Int):It:=⟨s,1,0,0,0⟩
theorem sj3 {l:List It} (h:yj l) (I:∀y∈l,y.ok=true) (x y:It) (J:(l.any fun y=>y.same (tkey x.s))=true->y∈l/\y.same (tkey x.s)=true):hidden l x=((l.any fun y=>y.same (tkey x.s)) &&y.hides x):=by
 unfold hidden;have E:∀t∈l,t.hides x=true->t.same (tkey x.s)=true:=fun t o C=>by
  have h1:=I t o;rw[It.zv3]at h1;rw[It.kj1]at C;rw[It.same_iff];unfold tkey;simp only;omega
 cases H:l.any fun y=>y.same (tkey x.s) with
 |false=>
  rw[Bool.false_and,ab_];intro t o C;exact(ab_.1 H) t o (E t o C)
 |true=>
  obtain⟨h1,h2⟩:=J H;rw[cf_]
  cases C:y.hides x with
  |true=>exact aF_.2 ⟨y,h1,C⟩
  |false=>
   rw[ab_];intro t o z;have h3:=E t o z;have:t=y:=nv1 h o h1 (by rw[It.same_iff]at *;omega);rw[this,C]at z
   cases z
theorem mk5 (A:Option Addr) (n c:Nat) (l:List It) (s:Int) (w:World) (hn:n<=1000000) (hR:yj l) (hr:Row w w A n 5 (itc l)):
  Calls prog 223 #[.slice A n c,s] w fun e w'=>∃y:It,e=.returned (.tuple #[y.val,.bool (l.any fun y=>y.same (tkey s))])/\((l.any fun y=>y.same (tkey s))=true->y∈l/\y.same (tkey s)=true)/\Below w w w':=by
 have b6:=hr.yw;have C:=b_ w (.cells #[.int .i64 0,.int .i64 0,.int .u64 0,.int .u64 0,.int .i64 0] 33);have Q:=BoxO.new w #[.int .i64 0,.int .i64 0,.int .u64 0,.int .u64 0,.int .i64 0] 33;have J:=eq3 A n c l (tkey s) (w.alloc (.cells #[.int .i64 0,.int .i64 0,.int .u64 0,.int .u64 0,.int .i64 0] 33)) hn hR ((hr.below C).up C.size);have U:=fun h=>jq3 hR (tkey s) h;have E:=kx2 hR (tkey s);generalize (l.any fun y=>y.same (tkey s))=b at *;generalize pos l (tkey s)=r at *;unfold It.val tkey at J;unfold It.val;have a0:=H_ J;have a1:=H_ U;have H:=H_ E;clear J U E;go_enter func223,ntmps223;go_wp2_with fail;refine a0.mono ?_;rintro e W ⟨rfl,O⟩;generalize w.alloc (.cells #[.int .i64 0,.int .i64 0,.int .u64 0,.int .u64 0,.int .i64 0] 33)=V at *;obtain⟨g,hg⟩:=n_ (w:Nat);have o:(w:Nat)<=g:=o_
 rw[<-hg]at Q ⊢;clear hg a0;have z:=Q.below O;have b0:=z.c0;have b1:=z.c1;have b2:=z.c2;have b3:=z.c3;have b4:=z.c4;have z0:=z.free 0;have z1:=z.free 1;have z2:=z.free 2;have z3:=z.free 3;have z4:=z.free 4;have a2:=az C O
 cases b with
 |false=>
  go_wp2;refine bodyPost_ret (v:=.tuple #[.agg #[.int .i64 0,.int .i64 0,.int .u64 0,.int .u64 0,.int .i64 0],.bool false]) (by simp[results,go_sem, *]) rfl ⟨It.none_,rfl,(fun h=>by cases h),?_⟩;exact((((a2.setCell (p:=⟨g,0,none⟩) o _).setCell (p:=⟨g,1,none⟩) o _).setCell (p:=⟨g,2,none⟩) o _).setCell (p:=⟨g,3,none⟩) o _).setCell (p:=⟨g,4,none⟩) o _
 |true=>
  have a7:r < n:=by
   rcases ad_ r l.length with h|h
   ·omega
   ·have:=H.out o_
    cases this
  obtain⟨a,hl,rfl,b7,hd⟩:=((hr.below C).up C.size|>.below O).it (k:=r) a7;obtain⟨c0,c1,c2,c3,c4⟩:=hd;have a4:=a1.out hl;have I:=w_ hl;generalize l[r]=y at *;have HS:=H_ (d_ I a4);have a':(r:Int) < (n:Int):=o_
  clear I a4 a1 H;go_wp2;refine bodyPost_ret (v:=.tuple #[.agg #[y.s,y.k,[y.t],[y.v],y.x],.bool true]) (by simp[results,go_sem, *]) rfl ⟨y,rfl,HS,?_⟩;exact((((a2.setCell (p:=⟨g,0,none⟩) o _).setCell (p:=⟨g,1,none⟩) o _).setCell (p:=⟨g,2,none⟩) o _).setCell (p:=⟨g,3,none⟩) o _).setCell (p:=⟨g,4,none⟩) o _
theorem oy2 (A:Option Addr) (n c:Nat) (l:List It) (x:It) (w:World) (hn:n<=1000000) (hR:yj l) (hk:∀y∈l,y.ok=true) (hr:Row w w A n 5 (itc l)):
  Calls prog 166 #[.slice A n c,x.val] w fun e w'=>e=.returned (.bool (hidden l x))/\Below w w w':=by
 have H:=b_ w (.cells #[x.s,x.k,[x.t],[x.v],x.x] 33);have E:=BoxO.new w #[x.s,x.k,[x.t],[x.v],x.x] 33;have I:=mk5 A n c l x.s (w.alloc (.cells #[x.s,x.k,[x.t],[x.v],x.x] 33)) hn hR ((hr.below H).up H.size);have J:=fun y=>sj3 hR hk x y;obtain⟨r,O⟩:=n_ (hidden l x);rw[<-O];simp only[<-O]at J;unfold It.val at I ⊢;generalize (l.any fun y=>y.same (tkey x.s))=b at *;have Q:=H_ I;have U:=H_ J;clear I J O;go_enter func166,ntmps166;go_wp2_with fail;refine Q.mono ?_;rintro e W ⟨y,rfl,hy,a0⟩;have hh:=U.out y hy;generalize w.alloc (.cells #[x.s,x.k,[x.t],[x.v],x.x] 33)=V at *;obtain⟨g,hg⟩:=n_ (w:Nat);rw[<-hg]at E ⊢;clear hg Q U hy;have a4:=az H a0;have z:=E.below a0;have o:=b_ W (.cells #[.int .i64 y.s,.int .i64 y.k,.int .u64 y.t,.int .u64 y.v,.int .i64 y.x] 33);have b0:=(z.below o).c0;have b1:=(z.below o).c1;have b2:=(z.below o).c2;have b3:=(z.below o).c3;have b4:=(z.below o).c4;have HH:=H_ hh;have C:=fun W=>qy2 y x W;unfold It.val at C;generalize y.hides x=q at *;have HD:=H_ C;have a1:=az a4 o;clear hh C
 cases b with
 |false=>
  have HR:=H_ (show r=false from HH.trans (Bool.false_and _));clear HH;go_wp2;go_ret;exact⟨ik HR.symm,a1⟩
 |true=>
  have HR:=H_ (show r=q from HH.trans (cf_ _));clear HH;go_wp2_with fail;refine(HD.out _).mono ?_;rintro e W2 ⟨rfl,a6⟩;have E:=az a1 a6;go_wp2;go_ret;exact⟨ik HR.symm,E⟩
theorem wz:(prog.info? 33).map (fun i=>(i.zero,i.size,i.bytes))=some (some (.agg #[.int .i64 0,.int .i64 0,.int .u64 0,.int .u64 0,.int .i64 0]),5,40):=by kernel_rfl
theorem vz1 (w:World) (ty:TypeId) (b o z E:Nat) (a:Addr) (C H:Nat) (cs:List Value) (U:cs.length=Nat.min C z *5)
  (I:∀j v,cs[j]?=some v->w.cell? (a.add j)=some v) (hc:∀j,j < cs.length->(w.cell? ⟨b,o+j,none⟩).isSome=true) (hf:∀j,j < cs.length->w.frozen? ⟨b,o+j,none⟩=false) (h1:∀v∈cs,v.oneCell'=true):
  (Builtin.copy_ #[34,34] ty #[.slice (some ⟨b,o,none⟩) z E,.slice (some a) C H]).run prog w=.ok (goInt (Nat.min C z)) (w.setCells b o cs):=by
 have hl:=run_loadCells_list (P:=prog) w a cs I;have J:=run_storeCells_cells (P:=prog) b o cs 0 w (by simpa using hc) (by simpa using hf) h1;obtain⟨i0,O,a4,Q,a5⟩:=info_parts wz;simp[Builtin.copy_,run_underlying underlying34,Builtin.lenOf,Builtin.firstCells,sizeOf,typeInfo,O,Q,<-U,hl,J]
def yj5 (base n:Nat) (L:List It) (F:List Nat) (w:World) (e:Ending) (w':World):Prop:=∃A' c',e=.returned (.slice A' (n+1) c')/\w'.ownsRow base 33 5 (.slice A' (n+1) c') (n+1) (itc L)/\Chg F w w'/\∀g,F=[g]->(Value.slice A' (n+1) c').ownBlock=some g
theorem rk3 (base g n cap i:Nat) (l:List It) (x:It) (vb:Nat) (w:World) (ho:w.ownsRow base 33 5 (.slice (some g) n cap) n (itc l)) (hi:i < n) (c9:n+1<=cap) (hv:BoxO w 33 vb x.cells) (a':vb≠g):
  Calls prog 168 #[.slice (some g) n cap,(i:Int),.slice (some vb) 1 1] w (yj5 base n (l.take i++x::l.drop i) [g] w):=by
 have b0:=ho.1;rw[iw]at b0;have d0:l.length=n:=o_
 rcases ho.2 with ⟨_,h0⟩|⟨g',d',cur,d2,d3,z,hn,a1,a2,a4⟩
 ·omega
 injection d2 with o d4 d5;injection o with o;injection o with o;subst o d5;clear d4;have hB:BoxO w 33 g cur.toList:=by unfold BoxO;simpa using z
 have d6:cur.toList.length=cap *5:=by simpa using a2
 obtain⟨D,hD⟩:=n_ (itc (l.drop i));have b3:D.length=(n - i)*5:=by rw[hD,iw,I_,d0]
 have b5:∀v∈D,v.oneCell'=true:=by rw[hD];exact ax1 _
 have C:∀j v,D[j]?=some v->w.drew.cell? ⟨g,i *5+j,none⟩=some v:=fun j v hj=>by
  have e0:j < (n - i)*5:=by have:=(C_.1 hj).1;omega
  rw[show w.drew.cell? ⟨g,i *5+j,none⟩=w.cell? ⟨g,i *5+j,none⟩ from rfl,hB.cell,<-hj,hD,qk1,aA_,<-a4,aY_,if_pos o_]
 have E:∀k,k < cap *5->(w.drew.cell? ⟨g,k,none⟩).isSome=true:=fun k hk=>by
  rw[show w.drew.cell? ⟨g,k,none⟩=w.cell? ⟨g,k,none⟩ from rfl,hB.cell,j_ o_];rfl
 have J:∀ty dc sc,(Builtin.copy_ #[34,34] ty #[.slice (some ⟨g,(i+1)*5,none⟩) (n - i) dc,.slice (some ⟨g,i *5,none⟩) (n+1 - i) sc]).run prog w.drew=.ok (goInt ((n - i:Nat):Int)) (w.drew.setCells g ((i+1)*5) D):=fun ty dc sc=>by
  have hm:Nat.min (n+1 - i) (n - i)=n - i:=by simp only[Nat.min_def];split<;>omega
  have:=vz1 w.drew ty g ((i+1)*5) (n - i) dc ⟨g,i *5,none⟩ (n+1 - i) sc D (by rw[hm,b3]) (fun j v hj=>by rw[Addr.add_lit];exact C j v hj) (fun j hj=>E _ o_) (fun j hj=>hB.drew.free _) b5
  rwa [hm]at this
 obtain⟨O,H⟩:=n_ (w.drew.setCells g ((i+1)*5) D);have I:BoxO O 33 g (cur.toList.take ((i+1)*5)++(D++cur.toList.drop ((i+1)*5+D.length))):=by
  rw[H];exact BoxO.stores D _ w.drew _ hB.drew o_
 have a6:Chg [g] w O:=by
  rw[H];exact ay1 g D _ w _ (Chg.refl _ _).drew
 have o:BoxO O 33 vb x.cells:=hv.chg a6 (by simpa using a');rw[<-H]at J;have Q:∀ty dc,(Builtin.copy_ #[34,34] ty #[.slice (some ⟨g,i *5,none⟩) (n+1 - i) dc,.slice (some vb) 1 1]).run prog O=.ok (goInt 1) (O.setCells g (i *5) x.cells):=fun ty dc=>by
  have hm:Nat.min 1 (n+1 - i)=1:=by simp only[Nat.min_def];split<;>omega
  have:=vz1 O ty g (i *5) (n+1 - i) dc ⟨vb,0,none⟩ 1 1 x.cells (by rw[hm];rfl) (fun j v hj=>by rw[Addr.add_lit,am_,o.cell];exact hj)
   (fun j hj=>by rw[I.cell,j_ (by rw[It.dw]at hj;simp only[e_,y_,I_];omega)];rfl) (fun j hj=>I.free _) (fun v hv=>ax1 [x] v (by simpa [itc] using hv))
  rwa [hm]at this
 obtain⟨W2,a7⟩:=n_ (O.setCells g (i *5) x.cells);have a8:=BoxO.stores x.cells (i *5) O _ I (by simp only[e_,y_,I_,It.dw];omega);have a9:=ay1 g x.cells (i *5) w _ a6;rw[<-a7]at a8 a9;simp only[<-a7]at Q;have U:W2.ownsRow base 33 5 (.slice (some g) (n+1) cap) (n+1) (itc (l.take i++x::l.drop i)):=by
  refine⟨by rw[iw,e_,r_,y_,I_];omega,.inr ⟨g,cap,_,rfl,d3,a8,o_,a1,?_,?_⟩⟩
  ·simp only[az_,e_,y_,I_,It.dw]
   omega
  ·have e1:itc (l.take i++x::l.drop i)=cur.toList.take (i *5)++(x.cells++D):=by
    rw[vz,ex1,<-a4,aH_,aQ_ o_,hD];rfl
   rw[e1];have t1:(cur.toList.take ((i+1)*5)++(D++cur.toList.drop ((i+1)*5+D.length))).take (i *5)=cur.toList.take (i *5):=by
    rw[Z_ (by rw[y_];omega),aH_,aQ_ o_]
   have t2:(cur.toList.take ((i+1)*5)++(D++cur.toList.drop ((i+1)*5+D.length))).drop (i *5+x.cells.length)=D++cur.toList.drop ((i+1)*5+D.length):=by
    rw[It.dw,show i *5+5=(i+1)*5 by omega,au_ (by rw[y_];omega),List.drop_take,by_,List.take_zero,D_]
   rw[t1,t2,bo_,<-J_,<-J_,Z_ (by simp only[e_,y_,It.dw];omega),i_ (by simp only[e_,y_,It.dw];omega),J_]
 have b7:w.shape? g=some (33,cap *5):=by unfold World.shape?;rw[z];simp[a2]
 have b8:w.shape? vb=some (33,5):=by unfold World.shape?;rw[show w.heap[vb]?=_ from hv];rfl
 have d8:∀lb cb,(callFunc 226 #[.slice (some vb) 1 1,.slice (some ⟨g,(i+1)*5,none⟩) lb cb]).run prog w=.ok (.value (.bool false)) w:=fun lb cb=>by
  rw[run_callFunc_extern func226 (by kernel_rfl) (by kernel_rfl) (by kernel_rfl) (e:=Extern.SlicesOverlaps.overlaps #[34,34] #[4]) (by kernel_rfl),
   Lib.run_overlaps_apart w 34 4 33 underlying34 5 Tryz.sizeOf33 ⟨vb,0,none⟩ ⟨g,(i+1)*5,none⟩ 1 1 lb cb a' 33 33 5 (cap *5) b8 b7 o_ (hv.free _) (hv.free _)]
  rfl
 have b9:=H_ (d_ U (d_ a9 (fun g' (h:[g]=[g'])=>show (Value.slice (some (⟨g,0,none⟩:Addr)) (n+1) cap).ownBlock=some g' by injection h with h;rw[<-h];rfl)));have e4:IntKind.i64.wrap ((i:Int)+1)=(i:Int)+1:=by rw[IntKind.wrap_i64];unfold maxLen at a1;omega
 have e5:(0:Int)<=(i:Int)+1:=o_
 have e6:i<=n:=o_
 have e7:((i:Int)+1).toNat=i+1:=o_
 have e9:¬((i:Int)=(n:Int)):=o_
 have e':¬(cap=i+1):=o_
 have f0:(i:Int)<=(n:Int)+1:=o_
 have f1:¬(cap=i):=o_
 unfold maxLen at a1;clear ho z hB d6 C hD b3 b5 E I a6 o a8 a9 U a4 a2 b0 hv H a7 b7 b8;go_enter func168,ntmps168;go_wp2_with (simp only[d8])
 go_region_law (refine step_copy_runI rfl _ _ 34 34 rfl (.slice (some ⟨g,(i+1)*5,none⟩) (n - i) (cap - (i+1))) (.slice (some ⟨g,i *5,none⟩) (n+1 - i) (cap - i)) (by simp[Act.eval,Act.put]) (by simp[Act.eval,Act.put]) (J _ _ _) ?_)
 go_wp2_with (at_builtin;refine wpList_copy_runI _ rfl _ _ 34 34 rfl _ _ rfl rfl (Q _ _) ?_);go_ret;exact⟨_,_,rfl,b9⟩
theorem jx4 (base:Nat) (A:Option Addr) (n cap:Nat) (l:List It) (x:It) (vb:Nat) (w:World) (hn:n<=1000000) (o:base<=(w:Nat)) (ho:w.ownsRow base 33 5 (.slice A n cap) n (itc l)) (E:BoxO w 33 vb x.cells):
  Calls prog 168 #[.slice A n cap,(n:Int),.slice (some vb) 1 1] w fun e w'=>∃A' c',e=.returned (.slice A' (n+1) c')/\w'.ownsRow base 33 5 (.slice A' (n+1) c') (n+1) (itc (l++[x]))/\Chg (Value.slice A n cap).ownBlock.toList w w'/\((Value.slice A' (n+1) c').ownBlock=(Value.slice A n cap).ownBlock\/(Value.slice A' (n+1) c').ownBlock=some (w:Nat)):=by
 obtain⟨i0,H,I,J,O⟩:=info_parts wz;obtain⟨A1,c1,a4,a5,a6,_⟩:=ay ho;injection a4 with e1 e2 e3;subst e1 e3;clear e2;have z:Row w w (some ⟨vb,0,none⟩) 1 5 x.cells:=⟨rfl,fun j hj=>⟨_,rfl,E.lt,by
  rw[show ((⟨vb,0,none⟩:Addr).add j)=⟨vb,j,none⟩ by rw[Addr.add_lit,am_],E.cell];exact j_ hj⟩⟩
 have Q:itc l++x.cells=itc (l++[x]):=by rw[vz];simp[itc]
 have U:∀u∈x.cells,u.oneCell'=true:=fun v E=>ax1 [x] v (by simpa [itc] using E);have HR:=H_ z;have HO:=H_ ho;have a0:=H_ Q;have H1:=H_ U;unfold maxLen at a6;clear ho E z Q U
 rcases Nat.eq_or_lt_of_le a5 with hq|hq
 ·subst hq
  go_enter func168,ntmps168;go_wp2_with (at_builtin;refine iq ?_);refine gz (xw rfl (.tmp 23) (.tmp 24) _ rfl base 33 i0 _ 5 40 underlying34 H I J O rfl o_ w b0_ o _ n (itc l) rfl HO.out w _ 1 1 o_ x.cells rfl HR.out H1.out (n+1) (itc (l++[x])) rfl a0.out (by unfold maxLen;omega) o_ ?_);intro A' c' w' h1 h2 h3 h4 h5 h6;have H6:=H_ (d_ (Chg.qy (F:=(Value.slice A n n).ownBlock.toList) h3 (fun b hb=>by have C:(Value.slice A n n).ownBlock=some b:=hb;rw[C];simp)) h6);clear h6;go_wp2;go_ret;exact⟨_,_,rfl,h1,H6⟩
 ·have b7:¬cap=n:=o_
  go_enter func168,ntmps168;go_wp2_with (at_builtin;refine iq ?_);refine gz (xw rfl (.tmp 23) (.tmp 24) _ rfl base 33 i0 _ 5 40 underlying34 H I J O rfl o_ w b0_ o _ n (itc l) rfl HO.out w _ 1 1 o_ x.cells rfl HR.out H1.out (n+1) (itc (l++[x])) rfl a0.out (by unfold maxLen;omega) o_ ?_);intro A' c' w' h1 h2 h3 h4 h5 h6;have H6:=H_ (d_ (Chg.qy (F:=(Value.slice A n cap).ownBlock.toList) h3 (fun b hb=>by have C:(Value.slice A n cap).ownBlock=some b:=hb;rw[C];simp)) h6);clear h6;go_wp2;go_ret;exact⟨_,_,rfl,h1,H6⟩
theorem nq3 (base g n i:Nat) (l:List It) (x:It) (vb:Nat) (w:World) (f8:n<=1000000) (e3:base<=(w:Nat)) (ho:w.ownsRow base 33 5 (.slice (some g) n n) n (itc l)) (hi:i < n) (hv:BoxO w 33 vb x.cells):
  Calls prog 168 #[.slice (some g) n n,(i:Int),.slice (some vb) 1 1] w fun e w'=>∃A' c',e=.returned (.slice A' (n+1) c')/\w'.ownsRow base 33 5 (.slice A' (n+1) c') (n+1) (itc (l.take i++x::l.drop i))/\Below w w w'/\(Value.slice A' (n+1) c').ownBlock=some (w:Nat):=by
 obtain⟨i0,e5,e6,e7,a7⟩:=info_parts wz;have b9:=ho.1;rw[iw]at b9;have e9:l.length=n:=o_
 have hr:=Row.own ho;obtain⟨a0,a8,f0⟩:=hr.some_ (by rw[iw];omega);injection a8 with a8;subst a8;have z:∀j v,(itc l)[j]?=some v->w.cell? ⟨g,j,none⟩=some v:=fun j v hj=>by
  have:=hr.cells j v hj
  rwa [Addr.add_lit,am_]at this
 obtain⟨N,hN⟩:=n_ (w:Nat);obtain⟨G,hG⟩:=n_ (grownCap w (n+1) n 33);have f1:n+1<=G:=by rw[hG];exact grownCap_ge w _ _ _
 have a2:G<=maxLen:=by rw[hG];exact grownCap_le_maxLen w (n+1) n 33 (by unfold maxLen;omega)
 have C:((itc l).take (i *5)).length=i *5:=by rw[y_,iw];omega
 have a4:(Builtin.firstCells i0.size i (.slice (some g) i n)).run prog w.drew=.ok ((itc l).take (i *5)).toArray w.drew:=by
  rw[e7];exact run_firstCells_some (P:=prog) (w:=w.drew) 5 i ⟨g,0,none⟩ i n _ C (fun j v hj=>by
   rw[Addr.add_lit,am_];rw[aY_]at hj;split at hj
   ·exact z j v hj
   ·cases hj)
 obtain⟨o,E⟩:∃o:Array Value,o=((itc l).take (i *5)).toArray++Builtin.zeroCells (Value.agg #[.int .i64 0,.int .i64 0,.int .u64 0,.int .u64 0,.int .i64 0]).cells (n+1 - i)++Builtin.zeroCells (Value.agg #[.int .i64 0,.int .i64 0,.int .u64 0,.int .u64 0,.int .i64 0]).cells (G - (n+1)):=⟨_,rfl⟩;have a9:i+(n+1 - i)=n+1:=o_
 have a':∀ty,(Builtin.append_ #[34,3] ty #[.slice (some g) i n,.int .i64 ((n:Int)+1 - (i:Int))]).run prog w=.ok (.slice (some N) (n+1) G) (w.drew.alloc (.cells o 33)):=fun ty=>by
  have h:=Lib.run_append_grow_zeros w 34 3 ty 33 i0 _ .i64 .i64 underlying34 underlying3 e5 e6 (some ⟨g,0,none⟩) i n _ a4 (n+1 - i) o_ o_ o_ o_ (by rw[a7];omega) (by rw[a7,a9];exact growslice_fits o_ o_);rw[a9,<-hG,<-hN,<-E]at h;rw[show (n:Int)+1 - (i:Int)=((n+1 - i:Nat):Int) by omega];exact h
 have b0:∀k,(Builtin.zeroCells (Value.agg #[.int .i64 0,.int .i64 0,.int .u64 0,.int .u64 0,.int .i64 0]).cells k).size=k *5:=fun k=>by simp[Builtin.zeroCells,Value.cells]
 have b':o.size=G *5:=by
  rw[E,b6_,b6_,b0,b0,az_,C];omega
 have c9:o.toList.take (i *5)=(itc l).take (i *5):=by
  rw[E,Array.toList_append,Array.toList_append,J_,bo_,Z_ o_,i_ o_]
 obtain⟨D,hD⟩:=n_ (itc (l.drop i));have d1:D.length=(n - i)*5:=by rw[hD,iw,I_,e9]
 have d2:∀v∈D,v.oneCell'=true:=by rw[hD];exact ax1 _
 have d3:∀j v,D[j]?=some v->w.cell? ⟨g,i *5+j,none⟩=some v:=fun j v hj=>by
  refine z _ _ ?_
  rwa [hD,qk1,aA_]at hj
 obtain⟨O,Q⟩:=n_ (w.drew.alloc (.cells o 33));have U:BoxO O 33 N o.toList:=by rw[Q,hN];exact BoxO.new w.drew o 33
 have b1:Below w w O:=by rw[Q];exact(ax (Below.refl w w)).alloc l_ _
 have d4:BoxO O 33 vb x.cells:=hv.below b1;have f2:o.toList.length=G *5:=by simpa using b'
 have d5:Chg [N] w O:=Chg.of_below b1 [N];rw[<-Q]at a';have I:∀ty dc,(Builtin.copy_ #[34,34] ty #[.slice (some ⟨N,i *5,none⟩) (n+1 - i) dc,.slice (some vb) 1 1]).run prog O=.ok (goInt 1) (O.setCells N (i *5) x.cells):=fun ty dc=>by
  have hm:Nat.min 1 (n+1 - i)=1:=by simp only[Nat.min_def];split<;>omega
  have:=vz1 O ty N (i *5) (n+1 - i) dc ⟨vb,0,none⟩ 1 1 x.cells (by rw[hm];rfl) (fun j v hj=>by rw[Addr.add_lit,am_,d4.cell];exact hj)
   (fun j hj=>by rw[U.cell,j_ (by rw[It.dw]at hj;omega)];rfl) (fun j hj=>U.free _) (fun v hv=>ax1 [x] v (by simpa [itc] using hv))
  rwa [hm]at this
 obtain⟨W2,b3⟩:=n_ (O.setCells N (i *5) x.cells);have H:=BoxO.stores x.cells (i *5) O _ U (by rw[It.dw];omega);have a1:=ay1 N x.cells (i *5) w _ d5;rw[<-b3]at H a1;simp only[<-b3]at I;rw[c9,It.dw]at H;have d7:Below w w W2:=a1.below l_ (by simp[hN]);have J:∀ty dc sc,(Builtin.copy_ #[34,34] ty #[.slice (some ⟨N,(i+1)*5,none⟩) (n - i) dc,.slice (some ⟨g,i *5,none⟩) (n - i) sc]).run prog W2.drew=.ok (goInt ((n - i:Nat):Int)) (W2.drew.setCells N ((i+1)*5) D):=fun ty dc sc=>by
  have hm:Nat.min (n - i) (n - i)=n - i:=cG_ _;have:=vz1 W2.drew ty N ((i+1)*5) (n - i) dc ⟨g,i *5,none⟩ (n - i) sc D (by rw[hm,d1]) (fun j v hj=>by
    rw[Addr.add_lit];exact(d7.cell (p:=⟨g,i *5+j,none⟩) f0).trans (d3 j v hj))
   (fun j hj=>by
    rw[show W2.drew.cell? ⟨N,(i+1)*5+j,none⟩=W2.cell? ⟨N,(i+1)*5+j,none⟩ from rfl,H.cell,j_ (by simp only[e_,y_,I_,It.dw,iw];omega)];rfl)
   (fun j hj=>H.drew.free _) d2
  rwa [hm]at this
 obtain⟨W3,b5⟩:=n_ (W2.drew.setCells N ((i+1)*5) D);have b6:=BoxO.stores D ((i+1)*5) W2.drew _ H.drew (by simp only[e_,y_,I_,It.dw,iw];omega);have b7:=ay1 N D ((i+1)*5) w _ a1.drew;rw[<-b5]at b6 b7;simp only[<-b5]at J;have a6:W3.ownsRow base 33 5 (.slice (some N) (n+1) G) (n+1) (itc (l.take i++x::l.drop i)):=by
  refine⟨by rw[iw,e_,r_,y_,I_];omega,.inr ⟨N,G,_,rfl,o_,b6,f1,a2,?_,?_⟩⟩
  ·simp only[az_,e_,y_,I_,It.dw,iw]
   omega
  ·have e1:itc (l.take i++x::l.drop i)=(itc l).take (i *5)++x.cells++D:=by
    rw[vz,ex1,hD,J_];rfl
   have e2:((itc l).take (i *5)++(x.cells++o.toList.drop (i *5+5))).take ((i+1)*5)=(itc l).take (i *5)++x.cells:=by
    rw[<-J_,Z_ (by simp only[e_,It.dw,C];omega),i_ (by simp only[e_,It.dw,C];omega)]
   rw[e1,e2,bo_,<-J_,Z_ (by simp only[e_,It.dw,C];omega),i_ (by simp only[e_,It.dw,C];omega)]
 have d8:Below w w W3:=b7.below l_ (by simp[hN]);have d9:=H_ (d_ a6 (d_ d8 (show (Value.slice (some N) (n+1) G).ownBlock=some (w:Nat) by rw[hN];rfl)));have g8:IntKind.i64.wrap ((i:Int)+1)=(i:Int)+1:=by rw[IntKind.wrap_i64];omega
 have b1:(0:Int)<=(i:Int)+1:=o_
 have g':i<=n:=o_
 have h0:((i:Int)+1).toNat=i+1:=o_
 have a7:¬((i:Int)=(n:Int)):=o_
 have h6:¬(G=i):=o_
 have h7:¬(G=i+1):=o_
 have d8:(i:Int)<=(n:Int)+1:=o_
 have h8:¬(n=i):=o_
 have f4:=H_ a';have HA:=H_ I;have HB:=H_ J;unfold maxLen at a2;clear ho hr z hN hG C a4 E a9 a' b0 b' c9 hD d1 d2 d3 Q U d4 f2 d5 I b3 H a1 d7 J b5 b6 b7 a6 hv b9;go_enter func168,ntmps168;go_wp2_with (first
  |(at_builtin;refine Lib.wpList_append_run _ rfl _ _ _ _ rfl _ _ rfl rfl _ _ (f4.out _) ?_)
  |(at_builtin;refine wpList_copy_runI _ rfl _ _ 34 34 rfl _ _ rfl rfl (HA.out _ _) ?_))
 rw[HA.out];go_wp2_with fail
 go_region_law (refine step_copy_runI rfl _ _ 34 34 rfl (.slice (some ⟨N,(i+1)*5,none⟩) (n - i) (G - (i+1))) (.slice (some ⟨g,i *5,none⟩) (n - i) (n - i)) (by simp[Act.eval,Act.put]) (by simp[Act.eval,Act.put]) (HB.out _ _ _) ?_)
 go_wp2;go_ret;exact⟨_,_,rfl,d9⟩
theorem gj4 (base:Nat) (A:Option Addr) (n cap i:Nat) (l:List It) (x:It) (vb:Nat) (w:World) (I:n<=1000000) (hi:i<=n) (o:base<=(w:Nat)) (z:w.ownsRow base 33 5 (.slice A n cap) n (itc l)) (C:BoxO w 33 vb x.cells) (E:∀a,A=some a->vb≠a.block):
  Calls prog 168 #[.slice A n cap,(i:Int),.slice (some vb) 1 1] w fun e w'=>∃A' c',e=.returned (.slice A' (n+1) c')/\w'.ownsRow base 33 5 (.slice A' (n+1) c') (n+1) (itc (l.take i++x::l.drop i))/\Chg (Value.slice A n cap).ownBlock.toList w w'/\((Value.slice A' (n+1) c').ownBlock=(Value.slice A n cap).ownBlock\/(Value.slice A' (n+1) c').ownBlock=some (w:Nat)):=by
 have O:l.length=n:=by have:=z.1;rw[iw]at this;omega
 rcases Nat.eq_or_lt_of_le hi with rfl|hi
 ·rw[i_ o_,List.drop_of_length_le o_]
  exact jx4 base A i cap l x vb w I o z C
 ·rcases z.2 with ⟨_,h0⟩|⟨g,J,cur,H,Q,_,U,_⟩
  ·omega
  ·injection H with hA _ hc
   subst hA hc
   rcases ad_ n cap with h1|h1
   ·refine(rk3 base g n cap i l x vb w z hi h1 C (E _ rfl)).mono ?_
    rintro e w' ⟨A',c',h2,h3,h4,h5⟩;exact⟨A',c',h2,h3,h4,.inl (h5 g rfl)⟩
   ·obtain rfl:cap=n:=o_
    refine(nq3 base g cap i l x vb w I o z hi C).mono ?_;rintro e w' ⟨A',c',h2,h3,h4,h5⟩;exact⟨A',c',h2,h3,Chg.of_below h4 _,.inr h5⟩
theorem mv2 (w:World) (g o k:Nat) (H:∀j,j < k *5->(w.cell? ⟨g,o+j,none⟩).isSome=true) (I:∀j,j < k *5->w.frozen? ⟨g,o+j,none⟩=false):
  ∃cs:List Value,cs.length=k *5/\∀ty c,(Builtin.clear_ #[34] ty #[.slice (some ⟨g,o,none⟩) k c]).run prog w=.ok (.tuple #[]) (w.setCells g o cs):=by
 refine⟨(Builtin.zeroCells (Value.agg #[.int .i64 0,.int .i64 0,.int .u64 0,.int .u64 0,.int .i64 0]).cells k).toList,by simp[Builtin.zeroCells,Value.cells],fun ty c=>?_⟩;have C:(Builtin.zeroCells (Value.agg #[.int .i64 0,.int .i64 0,.int .u64 0,.int .u64 0,.int .i64 0]).cells k).toList.length=k *5:=by simp[Builtin.zeroCells,Value.cells]
 have h1:∀v∈(Builtin.zeroCells (Value.agg #[.int .i64 0,.int .i64 0,.int .u64 0,.int .u64 0,.int .i64 0]).cells k).toList,v.oneCell'=true:=fun v E=>by
  simp only[Builtin.zeroCells,Value.cells,Array.mem_toList_iff,Array.mem_map]at E;obtain⟨a,_,rfl⟩:=E;have h5:a % 5 < 5:=bB_ _ o_;show Value.oneCell' (#[.int .i64 0,.int .i64 0,.int .u64 0,.int .u64 0,.int .i64 0][a % 5]!)=true
  generalize a % 5=b at *
  match b with
  |0=>rfl
  |1=>rfl
  |2=>rfl
  |3=>rfl
  |4=>rfl
  |b+5=>omega
 have z:=run_storeCells_cells (P:=prog) g o (Builtin.zeroCells (Value.agg #[.int .i64 0,.int .i64 0,.int .u64 0,.int .u64 0,.int .i64 0]).cells k).toList 0 w (by simpa [C] using H) (by simpa [C] using I) h1;simp only[bp_]at z;have J:(zeroValue 33).run prog w=.ok (.agg #[.int .i64 0,.int .i64 0,.int .u64 0,.int .u64 0,.int .i64 0]) w:=by kernel_rfl
 cases k with
 |zero=>simp[Builtin.clear_,run_underlying underlying34,Builtin.zeroCells,World.setCells]
 |succ k=>simp[Builtin.clear_,run_underlying underlying34,J,z]
theorem vv1 {P:It->Bool} {l:List It} {q:Nat} (h:q < l.length):(l.take (q+1)).filter P=(l.take q).filter P++(if P l[q]=true then [l[q]] else []):=by
 rw[v_ h,bZ_,bv_,List.filter_nil]
theorem nk5 {P:It->Bool} {l:List It} (h:l.any P=true):(l.take (l.findIdx P+1)).filter (fun y=>!P y)=l.take (l.findIdx P):=by
 have o:l.findIdx P < l.length:=b3_.2 (by simpa using h);rw[vv1 o];have h1:P l[l.findIdx P]=true:=bG_;have h2:(l.take (l.findIdx P)).filter (fun y=>!P y)=l.take (l.findIdx P):=a8_.2 fun y z=>by
  obtain⟨i,hi,rfl⟩:=aJ_.1 z;have:=List.not_of_lt_findIdx (p:=P) (xs:=l) (i:=i) o_;simpa using this
 rw[h2];simp[h1]
structure Pk (cur cs:List Value) (cap p q:Nat) (L:List It):Prop where
 len:cs.length=cap *5
 pre:cs.take (p *5)=itc L
 post:cs.drop (q *5)=cur.drop (q *5)
 pl:L.length=p
theorem Pk.skip {cur cs:List Value} {cap p q:Nat} {L:List It} (h:Pk cur cs cap p q L):Pk cur cs cap p (q+1) L:=
 ⟨h.len,h.pre,by rw[show (q+1)*5=q *5+5 by omega,<-aW_,h.post,aW_],h.pl⟩
theorem Pk.keep {cur cs:List Value} {cap p q:Nat} {L:List It} (h:Pk cur cs cap p q L) (z:p < q) (C:q < cap) (y:It):Pk cur (cs.take (p *5)++(y.cells++cs.drop (p *5+y.cells.length))) cap (p+1) (q+1) (L++[y]):=by
 have E:=h.len;have o:=h.pl;refine⟨by simp only[e_,y_,I_,It.dw];omega,?_,?_,by simp[o]⟩
 ·rw[<-J_,Z_ (by simp only[e_,y_,It.dw];omega),i_ (by simp only[e_,y_,It.dw];omega),h.pre,vz]
  simp[itc]
 ·rw[<-J_,show (q+1)*5=(cs.take (p *5)++y.cells).length+((q - p)*5) by simp only[e_,y_,It.dw];omega,bP_,aW_,aC_ o_,D_]
  have:=h.skip.post;rw[show p *5+y.cells.length+((cs.take (p *5)++y.cells).length+(q - p)*5 - (cs.take (p *5)++y.cells).length)=(q+1)*5 by simp only[e_,y_,It.dw];omega,this]
  congr 1
  simp only[e_,y_,It.dw];omega
theorem sj1 (K:Nat) (hF:∀args w,(callFunc K args).run prog w=.ok (.enter K args) w) (a0:Array Value) (P:It->Bool) (base:Nat) (A:Option Addr) (n c2 cap:Nat) (l:List It) (w:World) (hn:n<=1000000) (j6:n<=c2) (j7:c2<=cap) (a1:base<=w.heap.size) (ho:w.ownsRow base 33 5 (.slice A n cap) n (itc l))
  (hK:∀x w1,(∀F,(∀a,A=some a->F=[a.block])->Chg F w w1)->Calls prog K (#[x.val] ++a0) w1 fun e w'=>e=.returned (.bool (P x))/\Below w1.heap.size w1 w'):
  Calls prog 126 #[.slice A n c2,.func (.func K) #[] a0] w fun e w'=>∃k A',e=.returned (.slice A' k c2)/\k=(l.filter fun y=>!P y).length/\w'.ownsRow base 33 5 (.slice A' k cap) k (itc (l.filter fun y=>!P y))/\Below base w w':=by
 have E:=xx3 K hF a0 P A n c2 l w hn (Row.own ho) (fun x w1 hb=>hK x w1 (fun F _=>Chg.of_below hb F));have b6:l.length=n:=by have:=ho.1;rw[iw]at this;omega
 cases C:l.any P with
 |false=>
  rw[av1 C]at E;have d':(l.filter fun y=>!P y)=l:=a8_.2 fun y hy=>by
   have:=(ab_.1 C) y hy;simpa using this
  have HF:=H_ d';have HO:=H_ ho;have HI:=H_ E;have h8:=H_ b6;clear E C d' ho hK b6;go_enter func126,ntmps126;go_wp2_with fail;refine HI.mono ?_;rintro e w1 ⟨rfl,Q⟩;go_wp2;go_ret;exact⟨n,A,rfl,by rw[HF.out];exact h8.symm,by rw[HF.out];exact own_below HO.out Q,Q.mono a1⟩
 |true=>
  rcases ho.2 with ⟨j',h0⟩|⟨g,i9,cur,h9,e0,a2,k2,h',i0,b7⟩
  ·subst h0
   have:l=[]:=ae_.1 b6;subst this
   cases C
  injection h9 with hA _ hc;subst hA hc;have hB:BoxO w 33 g cur.toList:=by unfold BoxO;simpa using a2
  have i1:cur.toList.length=cap *5:=by simpa using i0
  generalize cur.toList=cu at *;obtain⟨k0,e3,k5,i2,e4⟩:=uq3 C;have a4:=nk5 C;rw[e4]at a4;rw[e3]at E;have e5:Pk cu cu cap k0 (k0+1) ((l.take (k0+1)).filter fun y=>!P y):=by
   rw[a4];exact⟨i1,by rw[ex1,<-b7,aH_,aQ_ o_],rfl,by rw[y_];omega⟩
  have HI:=H_ E;have e6:=H_ e5;have HB:=H_ hB;have HF:=H_ hF;have HK:=H_ hK;have i3:=H_ b7;have k7:k0 < n:=o_
  unfold maxLen at h';clear E e5 a4 C i2 e4 e3 hF hK b7 a2 ho hB;go_enter func126,ntmps126;go_wp2_with fail;refine HI.mono ?_;rintro e w1 ⟨rfl,Q⟩;have e9:=HB.below Q;have e':Chg [g] w w1:=Chg.of_below Q [g];have e1:((k0:Int)==-1)=false:=by rw[beq_eq_false_iff_ne];omega
  have f0:=H_ e9;clear HI HB e9 Q;go_wp2_with fail
  go_loopw [5,6] (fun i j wr=>∃p q:Nat,p < q/\q<=n/\i=.int .i64 p/\j=.int .i64 q/\Hid (∃cs,BoxO wr 33 g cs/\Pk cu cs cap p q ((l.take q).filter fun y=>!P y))/\Chg [g] w wr) (fun i j _=>n - (intOf j).toNat)
  case atStart=>exact⟨k0,k0+1,o_,o_,rfl,by go_num,H_ ⟨cu,f0,e6⟩,e'⟩
  case round=>
   obtain⟨p,q,i4,k9,rfl,rfl,a7,hC⟩:=hrel;clear f0 e6 e' e1
   by_cases k':q < n
   ·obtain⟨cs,J,U⟩:=a7.out
    have hl:q < l.length:=o_
    have hq:∀t v,t < 5->(l[q]).cells[t]?=some v->wr.cell? ⟨g,q *5+t,none⟩=some v:=fun t v ht hv=>by
     rw[J.cell,show cs[q *5+t]?=(cs.drop (q *5))[t]? by rw[aA_],U.post,aA_,<-hv,<-xj2 l q t hl ht,<-i3.out,aY_,if_pos o_]
    have f1:=vv1 (P:=fun y=>!P y) hl;generalize l[q]=y at *;have d0:=hq 0 _ o_ rfl;rw[bp_]at d0;have d1:=hq 1 _ o_ rfl;have d2:=hq 2 _ o_ rfl;have d3:=hq 3 _ o_ rfl;have d4:=hq 4 _ o_ rfl;have O:Chg [g] w (wr.alloc (.cells #[y.s,y.k,[y.t],[y.v],y.x] 33)):=hC.alloc _;have hk:=HK.out y (wr.alloc (.cells #[y.s,y.k,[y.t],[y.v],y.x] 33)) (fun F hF=>by rw[hF _ rfl];exact O);have b9:=BoxO.new wr #[y.s,y.k,[y.t],[y.v],y.x] 33;have a5:=J.alloc (.cells #[y.s,y.k,[y.t],[y.v],y.x] 33);unfold It.val at hk;obtain⟨b,hb⟩:=n_ (P y);rw[<-hb]at hk;have f2:=H_ f1;have HB:=H_ hb;have a8:=H_ U;have b':=H_ hk;have l2:(q:Int) < (n:Int):=o_
    have l3:(p:Int) < (n:Int):=o_
    clear f1 hb U hk hq J a7 hl;go_wp2_with fail;rw[HF.out,Oper.upon_enter];refine b'.mono ?_;rintro e w2 ⟨rfl,c9⟩;have H:=b9.below c9;have o:=a5.below c9;have f3:Chg [g] w w2:=O.trans (Chg.of_below c9 []) (fun g hg=>by cases hg);generalize (wr:Nat)=bv at *
    cases b with
    |true=>
     have I:Pk cu cs cap p (q+1) ((l.take (q+1)).filter fun y=>!P y):=by
      rw[f2.out,<-HB.out];simpa using a8.out.skip
     have a6:=H_ I;clear I d0 d1 d2 d3 d4 b' b9 a5 O;go_wp2;go_roundw
     case rel=>exact⟨p,q+1,o_,o_,rfl,by go_num,H_ ⟨cs,o,a6⟩,f3⟩
     case measure=>simp[intOf];omega
    |false=>
     have I:=a8.keep i4 o_ y;have f4:((l.take (q+1)).filter fun y=>!P y)=((l.take q).filter fun y=>!P y)++[y]:=by
      rw[f2.out,<-HB.out];rfl
     rw[<-f4]at I;have f5:=BoxO.stores y.cells (p *5) w2 cs o (by have:=a8.len;rw[It.dw];omega);have f6:=ay1 g y.cells (p *5) w w2 f3;have z:∀t,t < 5->∃u,w2.cell? ⟨g,p *5+t,none⟩=some u:=fun t ht=>⟨cs[p *5+t]'(by have:=a8.len;omega),by rw[o.cell];exact j_ _⟩;obtain⟨u0,s0⟩:=z 0 o_;obtain⟨u1,s1⟩:=z 1 o_;obtain⟨u2,s2⟩:=z 2 o_;obtain⟨u3,s3⟩:=z 3 o_;obtain⟨u4,s4⟩:=z 4 o_;have z0:=o.free (p *5);have z1:=o.free (p *5+1);have z2:=o.free (p *5+2);have z3:=o.free (p *5+3);have z4:=o.free (p *5+4);have b0:=H.cell 0;have b1:=H.cell 1;have b2:=H.cell 2;have b3:=H.cell 3;have b4:=H.cell 4;simp only[gE0,gE1,bp_]at b0 b1 b2 b3 b4 s0;have a6:=H_ I;have f7:=H_ (d_ f5 f6);clear I f4 f5 f6 z d0 d1 d2 d3 d4 b' b9 a5 O H o;go_wp2;go_roundw
     case rel=>exact⟨p+1,q+1,o_,o_,by go_num,by go_num,H_ ⟨_,f7.1,a6⟩,f7.2⟩
     case measure=>simp[intOf];omega
   ·obtain rfl:q=n:=o_
    obtain⟨cs,J,U⟩:=a7.out;have a9:=U.pl;obtain⟨zs,i8,f8⟩:=mv2 wr g (p *5) (q - p) (fun j hj=>by rw[J.cell,j_ (by have:=U.len;omega)];rfl) (fun j hj=>J.free _);obtain⟨W2,d5⟩:=n_ (wr.setCells g (p *5) zs);have d6:=BoxO.stores zs (p *5) wr cs J (by have:=U.len;omega);have O:=ay1 g zs (p *5) w wr hC;rw[<-d5]at d6 O;simp only[<-d5]at f8;have a':(l.take q).filter (fun y=>!P y)=l.filter (fun y=>!P y):=by rw[i_ o_]
    rw[a']at U a9;have b5:W2.ownsRow base 33 5 (.slice (some g) p cap) p (itc (l.filter fun y=>!P y)):=by
     refine⟨by rw[iw,a9],.inr ⟨g,cap,_,rfl,e0,d6,o_,by unfold maxLen;omega,?_,?_⟩⟩
     ·have:=U.len
      simp only[az_,e_,y_,I_];omega
     ·rw[bo_,Z_ (by have:=U.len;rw[y_];omega),aH_,cG_,U.pre]
    have f9:=H_ (d_ a9.symm (d_ b5 (O.below a1 (by simpa using e0))));have l9:((q:Int) < (q:Int))=False:=eq_false o_;have l':¬(c2=p):=o_
    have j2:(p:Int)<=(q:Int):=o_
    have j3:p<=q:=o_
    have m0:p<=c2:=o_
    have j4:(p:Int)<=(c2:Int):=o_
    clear J U a9 i8 d6 O a' b5 a7 hC d5;go_wp2_with fail;go_ret;exact⟨p,_,rfl,f9⟩
theorem mw3 (K:Nat) (hF:∀args w,(callFunc K args).run prog w=.ok (.enter K args) w) (o:Array Value) (P:It->Bool) (base:Nat) (A:Option Addr) (n cap:Nat) (l:List It) (w:World) (J:n<=1000000) (z:base<=w.heap.size) (H:w.ownsRow base 33 5 (.slice A n cap) n (itc l))
  (O:∀x w1,(∀F,(∀a,A=some a->F=[a.block])->Chg F w w1)->Calls prog K (#[x.val] ++o) w1 fun e w'=>e=.returned (.bool (P x))/\Below w1.heap.size w1 w'):
  Calls prog 126 #[.slice A n cap,.func (.func K) #[] o] w fun e w'=>∃k A' c',e=.returned (.slice A' k c')/\k=(l.filter fun y=>!P y).length/\w'.ownsRow base 33 5 (.slice A' k c') k (itc (l.filter fun y=>!P y))/\Below base w w':=by
 have C:n<=cap:=by
  rcases H.2 with ⟨_,Q⟩|⟨g,I,cur,E,_,_,h1,_⟩
  ·omega
  ·injection E with _ _ C
   subst C;exact h1
 exact(sj1 K hF o P base A n cap cap l w J C l_ z H O).mono fun _ _ ⟨k,A',h1,h2⟩=>⟨k,A',cap,h1,h2⟩
theorem ey3 {l:List It} (h:yj l) (x:It) (z:pos l x < l.length) (C:It.same l[pos l x] x=true):vx1 l x= !(x.wins l[pos l x])/\put l x=l.set (pos l x) x:=by
 refine⟨?_,sz5 h (j_ z) C⟩;unfold vx1
 cases E:x.wins l[pos l x] with
 |false=>exact aF_.2 ⟨_,w_ z,by simp[C,E]⟩
 |true=>
  rw[bW_,ab_];intro y H o;simp only[N_,bt_]at o;have:y=l[pos l x]:=nv1 h H (w_ z) (by have:=o.1;rw[It.same_iff]at *;omega);rw[this,E]at o
  cases o.2
theorem yx3 {l:List It} (h:yj l) (x:It) (o:(l.any fun y=>y.same x)=false):vx1 l x=false/\put l x=l.take (pos l x)++x::l.drop (pos l x):=by
 rw[ab_]at o;refine⟨?_,mq4 h (fun y z=>?_)⟩
 ·unfold vx1
  rw[ab_];intro y z C;simp only[N_]at C;exact o y z C.1
 ·have:=o y (u_ z)
  simpa using this
theorem rz5 {base g n cap i:Nat} {l:List It} {w:World} (x:It) (ho:w.ownsRow base 33 5 (.slice (some g) n cap) n (itc l)) (hi:i < n):
  (w.setCells g (i *5) x.cells).ownsRow base 33 5 (.slice (some g) n cap) n (itc (l.set i x))/\(∀t,t < 5->∃u,w.cell? ⟨g,i *5+t,none⟩=some u)/\(∀t,w.frozen? ⟨g,t,none⟩=false):=by
 have C:=ho.1;rw[iw]at C
 rcases ho.2 with ⟨_,h0⟩|⟨g',a2,cur,E,H,z,I,J,O,Q⟩
 ·omega
 injection E with o a4 U;injection o with o;injection o with o;subst o U;have hB:BoxO w 33 g cur.toList:=by unfold BoxO;simpa using z
 have a5:cur.toList.length=cap *5:=by simpa using O
 refine⟨⟨by rw[iw,av_];omega,.inr ⟨g,cap,_,rfl,H,BoxO.stores x.cells (i *5) w _ hB (by rw[It.dw];omega),I,J,?_,?_⟩⟩,fun t ht=>⟨cur.toList[i *5+t]'o_,by rw[hB.cell];exact j_ _⟩,fun t=>hB.free t⟩
 ·simp only[az_,e_,y_,I_,It.dw]
  omega
 ·have e1:itc (l.set i x)=(itc l).take (i *5)++(x.cells++(itc l).drop ((i+1)*5)):=by
   rw[aZ_,if_pos o_,vz,ex1,<-qk1];rfl
  rw[e1,<-Q,aH_,aQ_ o_,List.drop_take,bo_,It.dw,<-J_,<-J_,List.take_append,i_ (by simp only[e_,y_,It.dw];omega)]
  congr 2
  ·simp only[e_,y_,It.dw]
   omega
  ·rw[show i *5+5=(i+1)*5 by omega]
theorem wx5 (A:Option Addr) (n c:Nat) (l:List It) (w:World) (O:n<=1000000) (H:Row w w A n 5 (itc l)):
  Calls prog 105 #[.slice A n c] w fun e w'=>∃A' c',e=.returned (.slice A' n c')/\w'.ownsRow w 33 5 (.slice A' n c') n (itc l)/\Below w w w':=by
 obtain⟨I,o,z,C,E⟩:=info_parts wz;have J:=H_ H;clear H;go_enter func105,ntmps105;go_wp2_with (at_builtin;refine iq ?_);refine gz (yx rfl _ (.tmp 3) _ rfl (w:Nat) 33 I _ 5 40 underlying34 o z C E rfl o_ w b0_ l_ rfl (w:Nat) A n c (itc l) rfl J.out (ax1 l) (by unfold maxLen;omega) o_ ?_);intro A' c' w' h1 h2 h3 h4 h5;go_wp2;go_ret;exact⟨_,_,rfl,h1,h2⟩
theorem ez5 (x y:It) (b:Nat) (w:World) (I:BoxO w 33 b x.cells):
  Calls prog 169 (#[y.val] ++#[.pointer (some b)]) w fun e w'=>e=.returned (.bool (x.hides y))/\Below w w w':=by
 have z:=fun W=>qy2 x y W;have C:=b_ w (.cells #[y.s,y.k,[y.t],[y.v],y.x] 33);have o:=I.alloc (.cells #[y.s,y.k,[y.t],[y.v],y.x] 33);have J:=o.cell 0;have b1:=o.cell 1;have b2:=o.cell 2;have O:=o.cell 3;have b4:=o.cell 4;unfold It.val at z ⊢;simp only[It.cells,gE0,gE1]at J b1 b2 O b4;have Q:=H_ z;clear z I o;go_enter func169,ntmps169;go_wp2_with fail;refine(Q.out _).mono ?_;rintro e w1 ⟨rfl,E⟩;have H:=az C E;go_wp2;go_ret;exact⟨rfl,H⟩
theorem px2 (x:It) (b base:Nat) (A:Option Addr) (n cap:Nat) (l:List It) (w:World) (H:n<=1000000) (o:base<=(w:Nat)) (I:w.ownsRow base 33 5 (.slice A n cap) n (itc l)) (C:BoxO w 33 b x.cells) (J:(Value.slice A n cap).ownBlock≠some b):
  Calls prog 126 #[.slice A n cap,.func (.func 169) #[] #[b]] w fun e w'=>∃k A' c',e=.returned (.slice A' k c')/\k=(l.filter fun y=>!x.hides y).length/\w'.ownsRow base 33 5 (.slice A' k c') k (itc (l.filter fun y=>!x.hides y))/\Below base w w':=by
 refine mw3 169 (fun _ _=>rfl) #[b] (fun y=>x.hides y) base A n cap l w H o I (fun y w1 E=>ez5 x y b w1 ?_)
 cases A with
 |none=>exact C.chg (E [] (fun a z=>by cases z)) s_
 |some a=>exact C.chg (E [a.block] (fun O z=>by injection z with z;rw[z])) (by
   intro h;exact J (by rw[c_.1 h];rfl))
theorem cw6 {base g n cap k:Nat} {l:List It} {w:World} (o:w.ownsRow base 33 5 (.slice (some g) n cap) n (itc l)) (z:k < l.length):∀t v,t < 5->(l[k]).cells[t]?=some v->w.cell? ⟨g,k *5+t,none⟩=some v:=by
 intro t v C E;have H:=Row.own o;have:=H.cells (k *5+t) v ((xj2 l k t z C).trans E)
 rwa [Addr.add_lit,am_]at this
def yj2 (base:Nat) (w:World) (R:List It) (e:Ending) (w':World):Prop:=∃k A' c',e=.returned (.slice A' k c')/\k=R.length/\w'.ownsRow base 33 5 (.slice A' k c') k (itc R)/\Below base w w'
theorem kz42 {P S a oi v} (h:Hv P S a oi v:=by intro w o;(obtain⟨⟨c0,c1,c2,c3,c4⟩,d0,d1,d2,d3,d4⟩:=KC.out w o);go_simp;try (with_reducible rfl)):Hv P S a oi v:=h
theorem kz43 {P S a oi v} (h:Hv P S a oi v:=by intro w o;skip;go_simp;try (with_reducible rfl)):Hv P S a oi v:=h
theorem ny5 (base:Nat) (A:Option Addr) (n cap:Nat) (l:List It) (x:It) (w:World) (hn:n<=999999) (e0:base<=(w:Nat)) (hS:Stt l) (ho:w.ownsRow base 33 5 (.slice A n cap) n (itc l)):
  Calls prog 107 #[.slice A n cap,x.val] w (yj2 base w (add l x)):=by
 have k4:l.length=n:=by have:=ho.1;rw[iw]at this;omega
 have b2:=(Below.refl base w).alloc e0 (.cells #[x.s,x.k,[x.t],[x.v],x.x] 33);have U:=own_below ho (b_ w (.cells #[x.s,x.k,[x.t],[x.v],x.x] 33));have a2:BoxO (w.alloc (.cells #[x.s,x.k,[x.t],[x.v],x.x] 33)) 33 (w:Nat) x.cells:=BoxO.new w #[x.s,x.k,[x.t],[x.v],x.x] 33;have a4:(Value.slice A n cap).ownBlock≠some (w:Nat):=fun h=>by have:=(ho.lt _ h).2;omega
 obtain⟨g,hg⟩:=n_ (w:Nat);obtain⟨V,hV⟩:=n_ (w.alloc (.cells #[x.s,x.k,[x.t],[x.v],x.x] 33));have H:base<=(V:Nat):=by rw[hV];simp;omega
 rw[<-hg]at a2 a4;rw[<-hV]at b2 U a2;have e2:=fun W=>tz1 x W;have e3:=fun W (hW:Below V V W)=>oy2 A n cap l x W o_ hS.rises hS.ok (Row.own (own_below U hW));have e4:=fun W (hW:Below V V W)=>eq3 A n cap l x W o_ hS.rises (Row.own (own_below U hW));have f6:∀w',Below V V w'->w'.cell? g=some (.int .i64 x.s)/\w'.cell? (g,1)=some (.int .i64 x.k)/\w'.cell? (g,2)=some (.int .u64 x.t)/\w'.cell? (g,3)=some (.int .u64 x.v)/\w'.cell? (g,4)=some (.int .i64 x.x):=fun w' hb=>by
  have hB:=a2.below hb;exact⟨hB.cell 0,hB.cell 1,hB.cell 2,hB.cell 3,hB.cell 4⟩
 have f8:=ey3 hS.rises x;have f9:=yx3 hS.rises x;have g4:=jq3 hS.rises x;have g8:=kx2 hS.rises x;have l8:=dy3 l x;obtain⟨R,hR⟩:=n_ (add l x);rw[<-hR];unfold add at hR;unfold It.val at e2 e3 e4 ⊢;generalize (l.any fun y=>y.same x)=b at *;generalize pos l x=r at *;generalize k7:x.ok=o1 at *;generalize k8:hidden l x=o2 at *;have a5:∀w',R=l->Below V V w'->yj2 base w R (.returned (.slice A n cap)) w':=fun w' h hb=>by
  rw[h];exact⟨n,A,cap,rfl,k4.symm,own_below U hb,b2.trans (hb.mono H)⟩
 have g':=H_ e2;have h6:=H_ e3;have h7:=H_ e4;have b5:=H_ f6;have e5:=H_ f8;have e6:=H_ f9;have e7:=H_ g4;have e9:=H_ g8;have HR:=H_ hR;have b6:=H_ a5;have a6:=H_ U;have e':=H_ a2;have HV:=H_ hV;have HG:=H_ hg;clear e2 e3 e4 f6 f8 f9 g4 g8 hR a5 U a2 hV hg k7 k8 ho;go_enter func107,ntmps107;go_wp2_with fail;rw[<-HV.out,<-HG.out];refine(g'.out _).mono ?_;rintro e w1 ⟨rfl,a7⟩;obtain⟨x0,x1,x2,x3,x4⟩:=b5.out _ a7
 cases o1 with
 |false=>
  have h1:=b6.out w1 (by rw[HR.out];rfl) a7;have H1:=H_ h1;clear h1;go_wp2;go_ret;exact H1
 |true=>
  go_wp2_with fail;refine(h6.out _ a7).mono ?_;rintro e w2 ⟨rfl,b'⟩;have a8:=az a7 b';clear x0 x1 x2 x3 x4;obtain⟨x0,x1,x2,x3,x4⟩:=b5.out _ a8
  cases o2 with
  |true=>
   have h1:=b6.out w2 (by rw[HR.out];rfl) a8;have H1:=H_ h1;clear h1;go_wp2;go_ret;exact H1
  |false=>
   go_wp2_with fail;refine(h7.out _ a8).mono ?_;rintro e w3 ⟨rfl,c9⟩;have I:=az a8 c9;clear x0 x1 x2 x3 x4 a7 b' a8 c9 g' h6 h7;have m5:=e'.lt
   cases b with
   |true=>
    have f0:r < l.length:=by
     rcases ad_ r l.length with h|h
     ·exact h
     ·have:=e9.out o_
      cases this
    have i5:=e7.out f0;obtain⟨a0,J⟩:=e5.out f0 i5
    rcases a6.out.2 with ⟨_,h0⟩|⟨g0,l9,cur,k9,k',_,m6,_⟩
    ·omega
    injection k9 with hA _ hc;subst hA hc;have hq:=cw6 (own_below a6.out I) f0;have b7:=fun W=>ik2 x l[r] W;clear i5;generalize l[r]=y at *;have i6:∀w',Below w3 w3 w'->(w'.cell? g=some (.int .i64 x.s)/\w'.cell? (g,1)=some (.int .i64 x.k)/\w'.cell? (g,2)=some (.int .u64 x.t)/\w'.cell? (g,3)=some (.int .u64 x.v)/\w'.cell? (g,4)=some (.int .i64 x.x))/\w'.cell? ⟨g0,r *5,none⟩=some (.int .i64 y.s)/\w'.cell? ⟨g0,r *5+1,none⟩=some (.int .i64 y.k)/\w'.cell? ⟨g0,r *5+2,none⟩=some (.int .u64 y.t)/\w'.cell? ⟨g0,r *5+3,none⟩=some (.int .u64 y.v)/\w'.cell? ⟨g0,r *5+4,none⟩=some (.int .i64 y.x):=fun w' hb=>by
     have l1:=a6.lt g0 rfl;have hc:=fun j=>hb.cell (p:=⟨g0,j,none⟩) (L_ l1.2 I.size);exact⟨b5.out _ (I.trans (hb.mono I.size)),(hc _).trans (hq 0 _ o_ rfl),(hc _).trans (hq 1 _ o_ rfl),(hc _).trans (hq 2 _ o_ rfl),(hc _).trans (hq 3 _ o_ rfl),(hc _).trans (hq 4 _ o_ rfl)⟩
    unfold It.val at b7;obtain⟨q,i7⟩:=n_ (x.wins y);rw[<-i7]at b7 a0;have KC:=H_ i6;have HW:=H_ b7;have i8:=H_ a0;have l3:=H_ J;have m8:(r:Int) < (n:Int):=o_
    clear i6 b7 a0 J i7 hq e5 e6 e7 e9;go_wp2_with fail;refine w_h w3 fun o=>?_;refine w_v 0 o ?_ (k:=kz42);go_simp;refine w_v 1 o ?_ (k:=kz42);go_simp;refine w_v 2 o ?_ (k:=kz42);go_simp;refine w_v 3 o ?_ (k:=kz42);go_simp;refine w_v 4 o ?_ (k:=kz42);go_simp;refine w_v 5 o ?_ (k:=kz42);go_simp;refine w_v 6 o ?_ (k:=kz42);go_simp;refine w_r 7 fun K hK=>?_;go_simp
    with_reducible refine(HW.out _).mono ?_
    rintro e w4 ⟨rfl,i9⟩;go_simp;refine hK.out _ _ (o.trans (i9.mono o.size)) ?_;clear o hK K;intro o;go_simp;refine w_v 8 o ?_ (k:=kz42);go_simp;refine w_v 9 o ?_ (k:=kz42);go_simp;refine w_v 10 o ?_ (k:=kz42);go_simp;refine w_d ?_;have E:=I.trans (o.mono I.size);generalize w4=w5 at *;clear i9
    cases q with
    |false=>
     have h1:=b6.out w5 (by rw[HR.out,i8.out];rfl) E;have H1:=H_ h1;clear h1 o KC HW;go_wp2;go_ret;exact H1
    |true=>
     have a':R=(l.set r x).filter fun y=>!x.hides y:=by
      rw[HR.out,i8.out,l3.out];rfl
     obtain⟨⟨x0,x1,x2,x3,x4⟩,_⟩:=KC.out _ o;obtain⟨a1,z,C⟩:=rz5 x (own_below a6.out E) (show r < n by omega);obtain⟨u0,s0⟩:=z 0 o_;obtain⟨u1,s1⟩:=z 1 o_;obtain⟨u2,s2⟩:=z 2 o_;obtain⟨u3,s3⟩:=z 3 o_;obtain⟨u4,s4⟩:=z 4 o_;have z0:=C (r *5);have z1:=C (r *5+1);have z2:=C (r *5+2);have z3:=C (r *5+3);have z4:=C (r *5+4);rw[bp_]at s0;have hC:=ay1 g0 x.cells (r *5) w5 w5 (Chg.refl _ _);have d5:=(e'.below E).chg hC (by
      intro h;exact a4 (by rw[c_.1 h];rfl))
     have O:=px2 x g base _ n cap _ _ o_ (g_ (g_ H E.size) hC.size) a1 d5 a4;rw[<-a']at O;have i':Below base w (w5.setCells g0 (r *5) x.cells):=(b2.trans (E.mono H)).trans (hC.below (g_ H E.size) (by simpa using k'));have b0:=H_ (d_ O i');clear O i' d5 hC a1 z C KC HW o a';go_wp2_with fail;refine b0.1.mono ?_;rintro e w7 ⟨k,A',c',rfl,hk,b1,Q⟩;have H7:yj2 base w R (.returned (.slice A' k c')) w7:=⟨k,A',c',rfl,hk,b1,b0.2.trans Q⟩;have H8:=H_ H7;clear H7 b1 Q hk;go_wp2;go_ret;exact H8
   |false=>
    obtain⟨a0,J⟩:=e6.out rfl;have a':R=(l.take r++x::l.drop r).filter fun y=>!x.hides y:=by
     rw[HR.out,a0,J];rfl
    have l5:=H_ a';clear a0 J a' e5 e6 e7 e9 b6;go_wp2_with fail;refine w_h w3 fun o=>?_;refine w_v 0 o ?_ (k:=kz43);go_simp;refine w_v 1 o ?_ (k:=kz43);go_simp;refine wpT0 (i:=2) o ?_;go_simp;refine wpT0 (i:=3) o ?_;go_simp;refine wpT0 (i:=4) o ?_;go_simp;refine wpT0 (i:=5) o ?_;go_simp;refine wpT0 (i:=6) o ?_;go_simp;refine wpT0 (i:=7) o ?_;go_simp;refine wpT0 (i:=8) o ?_;go_simp;refine w_v 9 o ?_ (k:=kz43);go_simp;refine w_v 10 o ?_ (k:=kz43);go_simp;refine w_d ?_;have E:=I.trans (o.mono I.size);obtain⟨w5,j3⟩:=n_ w3.drew;rw[<-j3]at E ⊢;clear o j3;obtain⟨x0,x1,x2,x3,x4⟩:=b5.out _ E;have a1:=own_below a6.out E;have f2:=b_ w5 (.cells #[x.s,x.k,[x.t],[x.v],x.x] 33);have b8:=az E f2;have f3:=own_below a1 f2;have j4:BoxO (w5.alloc (.cells #[x.s,x.k,[x.t],[x.v],x.x] 33)) 33 (w5:Nat) x.cells:=BoxO.new w5 #[x.s,x.k,[x.t],[x.v],x.x] 33;have j5:∀a,A=some a->(w5:Nat)≠a.block:=fun a ha h=>by
     subst ha;have:=(a1.lt a.block rfl).2;omega
    have d6:=gj4 base A n cap r l x w5 _ o_ o_ (g_ H b8.size) f3 j4 j5;have d7:=H_ d6;have b9:=H_ b8;have l6:=H_ (b2.trans (b8.mono H));have l7:=H_ f3;clear d6 j4 j5 f3 a1 f2 b8 E;go_wp2_with fail;refine d7.mono ?_;rintro e w7 ⟨A',c',rfl,b1,Q,j6⟩;have d8:BoxO w7 33 g x.cells:=(e'.below b9).chg Q (fun h=>a4 (by simpa using h));have d9:(Value.slice A' (n+1) c').ownBlock≠some g:=by
     rcases j6 with h|h
     ·rw[h];exact a4
     ·rw[h]
      intro h2;injection h2 with h2;have:=b9.size;omega
    have d':=Q.below (B:=base) (g_ H b9.size) (fun b hb=>(l7.lt b (by simpa using hb)).1);have O:=px2 x g base A' (n+1) c' _ w7 o_ (g_ (g_ H b9.size) Q.size) b1 d8 d9;rw[<-l5.out]at O;have b0:=H_ (d_ O (l6.trans d'));clear O d8 d9 b1 j6 Q d' d7;go_wp2_with fail;refine b0.1.mono ?_;rintro e w8 ⟨k,A2,c2,rfl,hk,j7,j8⟩;have H7:yj2 base w R (.returned (.slice A2 k c2)) w8:=⟨k,A2,c2,rfl,hk,j7,b0.2.trans j8⟩;have H8:=H_ H7;clear H7 j7 j8 hk;go_wp2;go_ret;exact H8
def It.ns (x:It):List Nat:=[x.t,x.v,sgn x.x]
theorem It.ak6 (x:It):x.one=[UInt8.ofNat x.s.toNat,UInt8.ofNat x.k.toNat] ++x.ns.flatMap Pn.put:=by simp[It.one,It.ns]
theorem ry2 {w:World} {base size n:Nat} {e:TypeId} {v:Value} {xs:List Value} (h:w.ownsRow base e size v n xs) {g:Nat} (C:(w:Nat)<=g):some g≠v.ownBlock:=by
 rcases h.2 with ⟨rfl,_⟩|⟨o,cap,cur,rfl,_,z,_⟩
 ·intro e;cases e
 ·have:o < (w:Nat):=(E_.1 z).1
  intro e;have e:g=o:=ah_ e;omega
theorem BoxO.bq2 {w w':World} {e:TypeId} {g:Nat} {xs:List Value} {r:Option Nat} (h:BoxO w e g xs) (z:w.grownBy w' r) (o:some g≠r):BoxO w' e g xs:=(z.block g h.lt o).trans h
theorem mx5 {l:List It} {k:Nat} (h:k < l.length):(l.take (k+1)).flatMap It.one=(l.take k).flatMap It.one++l[k].one:=by
 rw[v_ h,bl_];simp
theorem kz13 {P S a oi v} (h:Hv P S a oi v:=by intro w z;(obtain⟨d0,d1,d2⟩:=KZ.out w z);go_simp;try (with_reducible rfl)):Hv P S a oi v:=h
theorem zz1 (A:Option Addr) (N c:Nat) (b:List UInt8) (L:Option Addr) (m d:Nat) (l:List It) (w:World) (hN:N<=1000000) (hm:m<=2000) (hr:Row w.heap.size w A N 1 (bts b)) (hq:Row w.heap.size w L m 5 (itc l)) (hk:∀x∈l,x.ok=true/\x.fit):
  Calls prog 216 #[.slice A N c,.slice L m d] w fun e w'=>∃A' M c',e=.returned (.tuple #[.slice A' M c',.int .i64 0])/\
   w'.ownsRow w.heap.size 5 1 (.slice A' M c') M (bts (b++It.bytes l))/\M<=c'/\c'<=maxLen/\Below w.heap.size w w':=by
 obtain⟨i0,e3,e4,e5,e6⟩:=info_parts gv1;have o3:=hr.xk;have l1:=hq.yw;have o4:∀w,(convert 3 22 (.int .i64 m)).run prog w=.ok (.int .u64 m) w:=by
  intro w;have:(m:Int) % 18446744073709551616=(m:Int):=o_
  simp[go_sem,convert,IntKind.wrap_u64,this]
 have e7:=wj1 L m d l w o_ hq;rw[show l.all It.ok=true from Y_.2 fun x hx=>(hk x hx).1]at e7;have o6:((2000:Int) < (m:Int))=False:=eq_false o_;have g':=H_ e7;have HK:=H_ hk;clear e7 hk;go_enter func216,ntmps216;go_wp2_with fail;refine g'.mono ?_;rintro e w0 ⟨rfl,E⟩;have hp:=put_any A N c b m o_ w0 o_ ((hr.below E).up E.size);have h0:=(hq.below E).up E.size;have HP:=H_ hp;clear hp g';go_wp2_with fail;refine HP.mono ?_;rintro e w1 ⟨A1,c1,rfl,e9,l2,o8,a9⟩;obtain⟨M1,h6⟩:=n_ (N+(Pn.put m).length);have n4:M1<=N+10:=by have:=(Pn.jq m).2;omega
 rw[<-h6]at e9 l2 ⊢;have l4:=(h0.below a9).up a9.size;have b9:=az E a9;have l5:=H_ e9;have b':=H_ b9;have l6:=H_ E.size;clear e9 b9 a9 E hr hq h0 HP h6;go_wp2
 go_loopw [7,25] (fun o i wr=>∃(k q:Nat) (A2:Option Addr) (c2:Nat),k<=m/\o=.slice A2 q c2/\i=.int .i64 k/\Hid (q<=32 *k/\wr.ownsRow w1 5 1 (.slice A2 q c2) q (bts ((l.take k).flatMap It.one)))/\Below w1 w1 wr) (fun _ i _=>m - (intOf i).toNat)
 case atStart=>exact⟨0,0,none,0,A_ _,rfl,rfl,H_ ⟨o_,G_ _ _ _ _⟩,Below.refl _ _⟩
 case round=>
  obtain⟨k,q,A2,c2,o9,rfl,rfl,HQ,a'⟩:=hrel
  by_cases l7:k < m
  ·obtain⟨p,hl,rfl,o',d0,d1,d2,d3,d4⟩:=(l4.below a').it l7
   have l8:(k:Int) < (m:Int):=o_
   have p0:IntKind.i64.wrap (k:Int)=(k:Int):=M_ _ o_;obtain⟨e',h8⟩:=HK.out _ (w_ hl);have f0:=mx5 hl;have n6:=HQ.1;generalize l[k]=x at *;rw[It.zv3]at e';have e1:=xv3 (x:=x.s) o_ o_;have e2:=xv3 (x:=x.k) o_ o_;rw[It.ak6]at f0;generalize UInt8.ofNat x.s.toNat=u1 at *;generalize UInt8.ofNat x.k.toNat=u2 at *;have hU:=b_ wr (.cells #[x.s,x.k,[x.t],[x.v],x.x] 33);have O:BoxO (wr.alloc (.cells #[x.s,x.k,[x.t],[x.v],x.x] 33)) 33 (wr:Nat) x.cells:=BoxO.new wr #[x.s,x.k,[x.t],[x.v],x.x] 33;obtain⟨U,b2⟩:=n_ (wr.alloc (.cells #[x.s,x.k,[x.t],[x.v],x.x] 33));rw[<-b2]at hU O;have c9:Row (U.alloc (.cells #[.int .u8 u1.toNat,.int .u8 u2.toNat] 5)).heap.size (U.alloc (.cells #[.int .u8 u1.toNat,.int .u8 u2.toNat] 5)) (some ⟨U,0,none⟩) 2 1 (bts [u1,u2]):=by
    have:=Row.new U #[.int .u8 u1.toNat,.int .u8 u2.toNat] 5 (n:=2) (size:=1) rfl;simpa [bts] using this
   have b0:=O.cell 0;have b1:=O.cell 1;simp only[It.cells,gE0,gE1]at b0 b1;have f1:=az a' hU;have h9:=own_below HQ.2 hU;have h':=f1.alloc f1.size (.cells #[.int .u8 u1.toNat,.int .u8 u2.toNat] 5);have i1:=h9.alloc (.cells #[.int .u8 u1.toNat,.int .u8 u2.toNat] 5);have d5:=O.alloc (.cells #[.int .u8 u1.toNat,.int .u8 u2.toNat] 5);have d6:=H_ c9;have f2:=H_ h';have i2:=H_ i1;have d7:=H_ d5;have l9:=H_ f0;have l':=H_ e';have b3:=H_ h8;have m0:=b2.symm;have p3:(wr:Nat)+1=(U:Nat):=by rw[b2];simp
   clear c9 h' i1 d5 f0 e' h8 hU O f1 h9 b2;go_wp2_with (at_builtin;refine iq ?_);refine gz (iy rfl (.tmp 29) (.tmp 36) _ rfl (w1:Nat) 5 i0 _ 1 1 underlying77 e3 e4 e5 e6 rfl o_ w1 f2.out f2.size _ q _ rfl i2.out _ _ 2 2 (bts [u1,u2]) rfl d6.out (by1 _) (q+2) _ rfl rfl (by unfold maxLen;omega) o_ ?_);intro A3 c3 w3 Q i3 i4 p4 p5;have C:=d7.bq2 i4 (ry2 HQ.2 l_);have i5:∀w',Below w3 w3 w'->w'.cell? (wr,2)=some (.int .u64 x.t)/\w'.cell? (wr,3)=some (.int .u64 x.v)/\w'.cell? (wr,4)=some (.int .i64 x.x):=fun w' h=>by
    have e:=C.below h;exact⟨e.cell 2,e.cell 3,e.cell 4⟩
   have KZ:=H_ i5;have d0:=C.cell 2;have d1:=C.cell 3;have d2:=C.cell 4;simp only[It.cells,gE0,gE1]at d0 d1 d2;have i6:=fun W=>kv5 x.x b3.1 b3.2 W;have i7:=H_ i6;have f3:=H_ Q;have f4:=H_ i3;have b6:x.ns=[x.t,x.v,sgn x.x]:=rfl;have H:∀n∈x.ns,n < 18446744073709551616:=by
    have h1:=l'.out;have h2:=qw5 b3.1 b3.2;rw[b6];intro n hn;simp only[h_,ar_,or_false]at hn
    rcases hn with rfl|rfl|rfl<;>omega
   obtain⟨sg,a0⟩:=n_ (sgn x.x);rw[<-a0]at b6;have m1:=H_ b6;have i8:=H_ H;have i9:=H_ a0;clear i6 Q i3 C b6 H a0 i4 f2 i2 d7 d6 e1 e2 b0 b1 m0;go_wp2_with fail;clear d0 d1 d2 i5;refine w_h w3 fun z=>?_;refine w_v 0 z ?_ (k:=kz13);go_simp;refine w_v 1 z ?_ (k:=kz13);go_simp;refine w_v 2 z ?_ (k:=kz13);go_simp;refine w_v 3 z ?_ (k:=kz13);go_simp;refine w_v 4 z ?_ (k:=kz13);go_simp;refine w_v 5 z ?_ (k:=kz13);go_simp;refine w_v 9 z ?_ (k:=kz13);go_simp;refine w_r 6 fun K hK=>?_;go_simp
   with_reducible refine(i7.out _).mono ?_
   rintro e w7 ⟨rfl,rfl⟩;go_simp;refine hK.out _ _ z ?_;clear z hK K;intro z;go_simp;refine w_r 7 fun K hK=>?_
   skip
   go_simp;refine hK.out _ _ (z.alloc z.size _) ?_;clear z hK K;intro z;go_simp;refine w_v 8 z ?_ (k:=kz13);go_simp;refine w_d ?_;have b7:=z;clear z KZ i7 d0 d1 d2 d3 d4;have f5:some (w3:Nat)≠(Value.slice A3 (q+2) c3).ownBlock:=ry2 f3.out l_;have f6:=own_below f3.out b7;have I:BoxO (w3.alloc (.cells #[[x.t],[x.v],.int .u64 (sgn x.x:Int)] 22)).drew 22 (w3:Nat) (u64v x.ns):=by
    have:=(BoxO.new w3 #[[x.t],[x.v],.int .u64 (sgn x.x:Int)] 22).drew;rw[m1.out,i9.out];exact this
   have a1:=f4.trans (b7.mono f4.size);obtain⟨g,hg⟩:=n_ (w3:Nat);rw[<-hg]at f5 I;obtain⟨W,hW⟩:=n_ ((w3.alloc (.cells #[[x.t],[x.v],.int .u64 (sgn x.x:Int)] 22)).drew);rw[<-hW]at f6 I a1 b7 ⊢;have H0:=H_ (d_ f6 (d_ I a1));have m4:=H_ f5;have m5:=hg.symm;clear f6 I a1 f5 hW f3 f4 b7 hg;rw[m5];go_wp2_with fail
   go_loopw [7,47] (fun o i wq=>∃(j J:Nat) (A4:Option Addr) (c4:Nat),j<=3/\o=.slice A4 J c4/\i=.int .i64 j/\Hid (J<=q+2+10 *j/\wq.ownsRow w1 5 1 (.slice A4 J c4) J (bts ((l.take k).flatMap It.one++([u1,u2] ++(x.ns.take j).flatMap Pn.put)))/\some g≠(Value.slice A4 J c4).ownBlock/\BoxO wq 22 g (u64v x.ns))/\Below w1 w1 wq) (fun _ i _=>3 - (intOf i).toNat)
   case atStart=>exact⟨0,q+2,A3,c3,o_,rfl,rfl,H_ ⟨o_,by have:=H0.1;simpa [bts] using this,m4,H0.2.1⟩,H0.2.2⟩
   case round=>
    obtain⟨j,J,A4,c4,p7,rfl,rfl,HJ,f7⟩:=hrel;have p8:x.ns.length=3:=rfl
    by_cases p9:j < 3
    ·have m7:(j:Int) < 3:=o_
     have p':IntKind.i64.wrap (j:Int)=(j:Int):=M_ _ o_;have f8:=HJ.2.2.2.cell j;rw[aw4,j_ o_]at f8;have H:=i8.out _ (w_ (show j < x.ns.length by omega));have a2:x.ns.take (j+1)=x.ns.take j++[x.ns[j]]:=v_ o_;generalize x.ns[j]=n at *;simp only[aR_]at f8;have f9:=fun W=>put_any none 0 0 [] n H W o_ Row.nil_;have q3:=Pn.jq n;simp only[am_,D_]at f9;have j2:=H_ f9;have m8:=H_ a2;clear f9 a2;go_wp2_with fail;refine(j2.out _).mono ?_;rintro e w7 ⟨A5,c5,rfl,j3,q4,q5,b8⟩;have j4:=Row.own j3;have j5:=own_below HJ.2.1 b8;have a4:=HJ.2.2.2.below b8;have d9:=f7.trans (b8.mono f7.size);have q6:=a4.lt;generalize o0:(Pn.put n).length=pl at *;have q7:=HJ.1;have j6:=H_ j4;have j7:=H_ j5;have d':=H_ a4;have a5:=H_ d9;clear j3 j4 j5 a4 d9 j2 b8;go_wp2_with (at_builtin;refine iq ?_);refine gz (xw rfl (.tmp 51) (.tmp 53) _ rfl (w1:Nat) 5 i0 _ 1 1 underlying77 e3 e4 e5 e6 rfl o_ w1 a5.out a5.size _ J _ rfl j7.out _ _ pl c5 o_ (bts (Pn.put n)) rfl j6.out (by1 _) (J+pl) (bts ((l.take k).flatMap It.one++([u1,u2] ++(x.ns.take (j+1)).flatMap Pn.put))) rfl (by rw[m8.out];simp[bts]) (by unfold maxLen;omega) o_ ?_);intro A6 c6 w8 z1 z2 z3 z4 z5 z6;have j9:some g≠(Value.slice A6 (J+pl) c6).ownBlock:=by
      rcases z6 with z6|z6
      ·rw[z6];exact HJ.2.2.1
      ·rw[z6]
       intro e;have e:=ah_ e;omega
     have HF:=H_ (d_ (show J+pl<=q+2+10 *(j+1) by omega) (d_ z1 (d_ j9 (d'.bq2 z3 HJ.2.2.1))));clear z1 z3 z6 j9 j6 j7 d' a5 f8;go_wp2;go_roundw
     case rel=>exact⟨j+1,J+pl,A6,c6,o_,rfl,by go_num,HF,z2⟩
     case measure=>simp[intOf];omega
    ·have m7:((j:Int) < 3)=False:=eq_false o_
     have hj:j=3:=o_
     have a2:x.ns.take j=x.ns:=i_ o_;have ho:=HJ.2.1;rw[a2,<-l9.out]at ho;have HF:=H_ (d_ (show J<=32 *(k+1) by have:=HJ.1;omega) ho);clear ho a2;go_wp2;go_roundw
     case rel=>exact⟨k+1,J,A4,c4,o_,rfl,by go_num,HF,f7⟩
     case measure=>simp[intOf];omega
  ·have l8:((k:Int) < (m:Int))=False:=eq_false o_
   have e0:l.take k=l:=i_ o_;have hq:=HQ.out;rw[e0]at hq;have k0:=Row.own hq.2;have k1:=own_base (own_below l5.out a') l6;have k2:=b'.trans (a'.mono b'.size);have q9:=hq.1;have k3:=H_ k0;have k4:=H_ k1;have g4:=H_ k2;clear hq k0 k1 k2 e0;go_wp2_with (at_builtin;refine iq ?_);refine gz (iy rfl (.tmp 57) (.tmp 58) _ rfl w.heap.size 5 i0 _ 1 1 underlying77 e3 e4 e5 e6 rfl o_ w g4.out g4.size _ M1 _ rfl k4.out _ _ q c2 _ rfl k3.out (by1 _) (M1+q) (bts (b++It.bytes l)) rfl (by simp[It.bytes,bts,l1]) (by unfold maxLen;omega) o_ ?_);intro A6 c6 w8 z1 z2 z3 z4 z5;have HF:=H_ z1;clear z1 z3 k3 k4 g4 HQ;go_wp2;go_ret2;exact⟨A6,_,c6,rfl,HF,z4,z5,z2⟩
structure Its (B:Nat) (w:World) (A:Option Addr) (n c:Nat) (l:List It):Prop where
 row:Row w w A n 5 (itc l)
 nc:n<=c
 cm:c<=maxLen
 low:∀a,A=some a->B<=a.block
theorem jv1 (A:Option Addr) (n c:Nat) (w:World) (o:n<=c):Calls prog 96 #[.slice A n c] w fun e w'=>e=.returned (.slice A n n)/\w=w':=by
 have h1:(n:Int)<=(c:Int):=o_
 go_enter func96,ntmps96;go_wp2;go_ret;exact⟨rfl,rfl⟩
theorem Stt.take {l:List It} (h:Stt l) (k:Nat):Stt (l.take k):=
 ⟨h.rises.sublist (cv_ k l),fun y o=>h.ok y (a2_ o),fun a z b C=>h.bare a (a2_ z) b (a2_ C)⟩
theorem Stt.rw4 {l:List It} (h:Stt l) {k:Nat} (o:k < l.length):hidden (l.take k) l[k]=false:=by
 unfold hidden;rw[ab_];intro t z;simp[h.bare t (a2_ z) l[k] (w_ o)]
theorem kz30 {P S a oi v} (h:Hv P S a oi v:=by intro w o;(obtain⟨x0,x1,x2,x3,x4⟩:=KC.out w o);go_simp;try (with_reducible rfl)):Hv P S a oi v:=h
theorem kz31 {P S a oi v} (h:Hv P S a oi v:=by intro w o;(obtain⟨⟨x0,x1,x2,x3,x4⟩,y0,y1,y2,y3,y4⟩:=KC.out w o);go_simp;try (with_reducible rfl)):Hv P S a oi v:=h
theorem ry5 (A:Option Addr) (n c:Nat) (l:List It) (w:World) (hn:n<=1000000) (f2:n<=c) (d3:c<=maxLen) (hS:Stt l) (hr:Row w w A n 5 (itc l)):
  Calls prog 106 #[.slice A n c] w fun e w'=>e=.returned (.bool true)/\Below w w w':=by
 have f3:=hr.yw;have HS:=H_ hS;unfold maxLen at d3;clear hS;go_enter func106,ntmps106;go_wp2
 go_loopw [7] (fun i wr=>∃k:Nat,k<=n/\i=.int .i64 k/\Below w w wr) (fun i _=>n - (intOf i).toNat)
 case atStart=>exact⟨0,A_ _,rfl,Below.refl _ _⟩
 case round=>
  obtain⟨k,hk,rfl,z⟩:=hrel
  by_cases b6:k < n
  ·obtain⟨a,hl,rfl,d5,c0,c1,c2,c3,c4⟩:=(hr.below z).it b6
   have a7:=HS.ok _ (w_ hl);have a8:=HS.rw4 hl;have H:=fun W=>tz1 l[k] W;have I:=fun(W:World) (hW:Below wr wr W)=>(((hr.below z).up z.size).below hW).up hW.size|>.pre (b8_ b6)
   have J:=fun(W:World) (hW:Below wr wr W)=>oy2 (some a) k c (l.take k) l[k] W o_ (HS.take k).rises (HS.take k).ok (by rw[ex1];exact I W hW);rw[a8]at J;simp only[a7]at H;have C:∀(j:Nat) (hj:j < l.length),j < k->It.less l[j] l[k]=true:=fun j hj d6=>ay_.1 HS.rises j k hj hl d6;generalize b7:l[k]=x at *;have U:=b_ wr (.cells #[x.s,x.k,[x.t],[x.v],x.x] 33);have O:BoxO (wr.alloc (.cells #[x.s,x.k,[x.t],[x.v],x.x] 33)) 33 (wr:Nat) x.cells:=BoxO.new wr #[x.s,x.k,[x.t],[x.v],x.x] 33;obtain⟨W,a0⟩:=n_ (wr.alloc (.cells #[x.s,x.k,[x.t],[x.v],x.x] 33));obtain⟨g,hg⟩:=n_ (wr:Nat);rw[<-a0]at U O;rw[<-hg]at O;have a1:∀w',Below W.heap.size W w'->w'.cell? g=some (.int .i64 x.s)/\w'.cell? (g,1)=some (.int .i64 x.k)/\w'.cell? (g,2)=some (.int .u64 x.t)/\w'.cell? (g,3)=some (.int .u64 x.v)/\w'.cell? (g,4)=some (.int .i64 x.x):=fun w' hb=>by
    have hB:=O.below hb;exact⟨hB.cell 0,hB.cell 1,hB.cell 2,hB.cell 3,hB.cell 4⟩
   unfold It.val at H J;have Q:∀w',Below W.heap.size W w'->Below wr wr w':=fun w' h=>az U h;have a4:=H_ H;have a5:=H_ J;have HW:=H_ a0;have HG:=H_ hg;have f4:(k:Int)<=(n:Int):=o_
   have a9:k<=c:=o_
   have e6:(k:Int)<=(c:Int):=o_
   have f5:IntKind.i64.wrap (k:Int)=(k:Int):=M_ _ o_
   rcases an_ k with h0|h0
   ·have d7:((0:Int) < (k:Int))=False:=eq_false o_
    have d8:(0 < k)=False:=eq_false o_;clear h0;have KC:=H_ a1;clear a1 H J a0 hg a7 a8 I C b7 O U;go_wp2_with fail;rw[<-HW.out,<-HG.out];refine w_h W fun o=>?_;refine w_v 0 o ?_ (k:=kz30);go_simp;refine w_r 1 fun K E=>?_;go_simp
    with_reducible refine(a4.out _).mono ?_
    rintro e w1 ⟨rfl,a'⟩;go_simp;refine E.out _ _ (o.trans (a'.mono o.size)) ?_;clear o E K;intro o;go_simp;refine w_v 2 o ?_ (k:=kz30);go_simp;refine w_v 3 o ?_ (k:=kz30);go_simp;refine w_v 4 o ?_ (k:=kz30);go_simp;refine w_v 5 o ?_ (k:=kz30);go_simp;refine w_v 6 o ?_ (k:=kz30);go_simp;refine wpT0 (i:=7) o ?_;go_simp;refine wpT0 (i:=8) o ?_;go_simp;refine wpT0 (i:=9) o ?_;go_simp;refine wpT0 (i:=10) o ?_;go_simp;refine wpT0 (i:=11) o ?_;go_simp;refine wpT0 (i:=12) o ?_;go_simp;refine wpT0 (i:=13) o ?_;go_simp;refine wpT0 (i:=14) o ?_;go_simp;refine w_v 15 o ?_ (k:=kz30);go_simp;refine w_v 16 o ?_ (k:=kz30);go_simp;refine w_v 17 o ?_ (k:=kz30);go_simp;refine w_v 18 o ?_ (k:=kz30);go_simp;refine w_v 19 o ?_ (k:=kz30);go_simp;refine w_v 20 o ?_ (k:=kz30);go_simp;refine w_v 21 o ?_ (k:=kz30);go_simp;refine w_r 22 fun K E=>?_;go_simp
    with_reducible refine(a5.out _ (Q _ o)).mono ?_
    rintro e w2 ⟨rfl,b0⟩;go_simp;refine E.out _ _ (o.trans (b0.mono o.size)) ?_;clear o E K;intro o;go_simp;refine w_v 23 o ?_ (k:=kz30);go_simp;refine w_d ?_;have b1:=az z (Q _ o);clear o KC a4 a5;go_wp2;go_roundw
    case rel=>exact⟨k+1,o_,by go_num,b1⟩
    case measure=>simp[intOf];omega
   ·obtain⟨j,hj⟩:∃j,k=j+1:=⟨k - 1,o_⟩
    obtain⟨a2,d9,ea,_,hd⟩:=(hr.below z).it (k:=j) o_;injection ea with ea;subst ea;have a6:=fun W=>gx1 l[j] x W;rw[C j d9 o_]at a6;generalize l[j]=y at *;unfold It.val at a6;have a9:∀w',Below W.heap.size W w'->(w'.cell? g=some (.int .i64 x.s)/\w'.cell? (g,1)=some (.int .i64 x.k)/\w'.cell? (g,2)=some (.int .u64 x.t)/\w'.cell? (g,3)=some (.int .u64 x.v)/\w'.cell? (g,4)=some (.int .i64 x.x))/\w'.cell? (a.add (j *5))=some (.int .i64 y.s)/\w'.cell? ⟨(a.add (j *5)).block,(a.add (j *5)).off+1,none⟩=some (.int .i64 y.k)/\w'.cell? ⟨(a.add (j *5)).block,(a.add (j *5)).off+2,none⟩=some (.int .u64 y.t)/\w'.cell? ⟨(a.add (j *5)).block,(a.add (j *5)).off+3,none⟩=some (.int .u64 y.v)/\w'.cell? ⟨(a.add (j *5)).block,(a.add (j *5)).off+4,none⟩=some (.int .i64 y.x):=fun w' hb=>by
     have h2:=hd.below (B:=(wr:Nat)) (w':=w') (L_ d5 z.size) (Q _ hb);exact⟨a1 w' hb,h2.c0,h2.c1,h2.c2,h2.c3,h2.c4⟩
    have d7:(0:Int) < (k:Int):=o_
    have d8:0 < k:=h0;have e0:(k:Int) - 1=(j:Int):=o_
    have e1:IntKind.i64.wrap (j:Int)=(j:Int):=M_ _ o_;have f7:IntKind.i64.wrap ((k:Int) - 1)=(j:Int):=by rw[e0];exact e1
    have f8:(j:Int) < (n:Int):=o_
    have KC:=H_ a9;have b9:=H_ a6;clear a1 H J a0 hg a7 a8 I C b7 O U a9 a6 hd hj h0;go_wp2_with fail;rw[<-HW.out,<-HG.out];refine w_h W fun o=>?_;refine w_v 0 o ?_ (k:=kz31);go_simp;refine w_r 1 fun K E=>?_;go_simp
    with_reducible refine(a4.out _).mono ?_
    rintro e w1 ⟨rfl,a'⟩;go_simp;refine E.out _ _ (o.trans (a'.mono o.size)) ?_;clear o E K;intro o;go_simp;refine w_v 2 o ?_ (k:=kz31);go_simp;refine w_v 3 o ?_ (k:=kz31);go_simp;refine w_v 4 o ?_ (k:=kz31);go_simp;refine w_v 5 o ?_ (k:=kz31);go_simp;refine w_v 6 o ?_ (k:=kz31);go_simp;refine w_v 7 o ?_ (k:=kz31);go_simp;refine w_v 8 o ?_ (k:=kz31);go_simp;refine w_v 9 o ?_ (k:=kz31);go_simp;refine w_v 10 o ?_ (k:=kz31);go_simp;refine w_v 11 o ?_ (k:=kz31);go_simp;refine w_v 12 o ?_ (k:=kz31);go_simp;refine w_r 13 fun K E=>?_;go_simp
    with_reducible refine(b9.out _).mono ?_
    rintro e w3 ⟨rfl,e2⟩;go_simp;refine E.out _ _ (o.trans (e2.mono o.size)) ?_;clear o E K;intro o;go_simp;refine w_v 14 o ?_ (k:=kz31);go_simp;refine w_v 15 o ?_ (k:=kz31);go_simp;refine w_v 16 o ?_ (k:=kz31);go_simp;refine w_v 17 o ?_ (k:=kz31);go_simp;refine w_v 18 o ?_ (k:=kz31);go_simp;refine w_v 19 o ?_ (k:=kz31);go_simp;refine w_v 20 o ?_ (k:=kz31);go_simp;refine w_v 21 o ?_ (k:=kz31);go_simp;refine w_r 22 fun K E=>?_;go_simp
    with_reducible refine(a5.out _ (Q _ o)).mono ?_
    rintro e w2 ⟨rfl,b0⟩;go_simp;refine E.out _ _ (o.trans (b0.mono o.size)) ?_;clear o E K;intro o;go_simp;refine w_v 23 o ?_ (k:=kz31);go_simp;refine w_d ?_;have b1:=az z (Q _ o);clear o KC a4 a5 b9;go_wp2;go_roundw
    case rel=>exact⟨k+1,o_,by go_num,b1⟩
    case measure=>simp[intOf];omega
  ·go_wp2
   go_ret;exact⟨rfl,z⟩
end Go.Proofs.YtfbkjjdfboagfaaGreatDoor
namespace Go.Proofs.YtfbkjjdfboagfaaGreatDoor
open Go.Proofs.Tryz Go Go.RowKit Go.Lib Go.Shelf
end Go.Proofs.YtfbkjjdfboagfaaGreatDoor
namespace Go.Proofs
open Go.Proofs.Tryz Go Go.RowKit Go.Lib Go.Shelf
def Tryz.growItem_ren:Go.Shelf.Ren:=⟨fun|4=>108|n=>n,fun|22=>34|25=>33|3=>3|4=>4|9=>9|20=>20|0=>0|n=>n,fun|n=>n⟩
theorem Tryz.growItem:Go.Proofs.Lays8.n4 prog Tryz.growItem_ren:=by repeat' first|kernel_rfl|exact x_ func108|intro _|constructor
end Go.Proofs
namespace Go.Proofs.YtfbkjjdfboagfaaGreatDoor
open Go.Proofs.Tryz Go Go.RowKit Go.Lib Go.Shelf
def nj1 (B:Nat) (w:World) (P:Option Addr) (n:Nat) (ls:List (List It)):Prop:=
 ∃vs,Row B w P n 1 vs/\ls.length=n/\∀i (h:i < ls.length),∃A k c,vs[i]?=some (.slice A k c)/\k<=c/\c<=maxLen/\Row B w A k 5 (itc ls[i])
theorem nj1.at_ {B:Nat} {w:World} {P:Option Addr} {n:Nat} {ls:List (List It)} (h:nj1 B w P n ls) {i:Nat} (hi:i < n):
  ∃a A k c,∃z:i < ls.length,P=some a/\a.block < B/\w.cell? (a.add i)=some (.slice A k c)/\k<=c/\c<=maxLen/\Row B w A k 5 (itc ls[i]):=by
 obtain⟨vs,C,z,E⟩:=h;obtain⟨a,v,e,b,o,H⟩:=C.at1 hi;obtain⟨A,k,c,h1,h2,h3,h4⟩:=E i o_;rw[h1]at o;injection o with o;exact⟨a,A,k,c,o_,e,b,by rw[H,<-o],h2,h3,h4⟩
theorem nj1.below {B:Nat} {w w':World} {P:Option Addr} {n:Nat} {ls:List (List It)} (h:nj1 B w P n ls) (o:Below B w w'):nj1 B w' P n ls:=by
 obtain⟨vs,z,C,E⟩:=h;exact⟨vs,z.below o,C,fun i hi=>let ⟨A,k,c,h1,h2,h3,h4⟩:=E i hi;⟨A,k,c,h1,h2,h3,h4.below o⟩⟩
theorem nj1.up {B B':Nat} {w:World} {P:Option Addr} {n:Nat} {ls:List (List It)} (h:nj1 B w P n ls) (o:B<=B'):nj1 B' w P n ls:=by
 obtain⟨vs,z,C,E⟩:=h;exact⟨vs,z.up o,C,fun i hi=>let ⟨A,k,c,h1,h2,h3,h4⟩:=E i hi;⟨A,k,c,h1,h2,h3,h4.up o⟩⟩
theorem nj1.len {B:Nat} {w:World} {P:Option Addr} {n:Nat} {ls:List (List It)} (h:nj1 B w P n ls):ls.length=n:=by
 obtain⟨_,_,o,_⟩:=h;exact o
theorem yy1 {ls:List (List It)} {k:Nat} (o:k < ls.length):(ls.take (k+1)).flatten=(ls.take k).flatten++ls[k]:=by
 have h:=(ak_ o).symm;rw[h,bm_];simp
theorem yk2 {ls:List (List It)} (k:Nat):(ls.take k).flatten.length<=ls.flatten.length:=by
 conv=>rhs;rw[<-ag_ k ls,bm_,e_]
 omega
theorem uq4 (n:Nat) (Q:n<=1000000) (w:World):
  Calls prog 108 #[.slice none 0 0,(n:Int)] w fun e w'=>∃A c,e=.returned (.slice A 0 c)/\w'.ownsRow w 33 5 (.slice A 0 c) 0 []/\Below w w w':=by
 obtain⟨I,o,z,J,C⟩:=info_parts wz
 rcases an_ n with H|H
 ·subst H
  have h:=Any8.slices_Grow_room Tryz.growItem none 0 0 0 w l_ o_ o_ o_;refine Calls.mono h ?_;rintro e w' ⟨rfl,rfl⟩;exact⟨none,0,rfl,G_ _ _ _ _,Below.refl _ _⟩
 ·have h:=Any8.slices_Grow_grow Tryz.growItem I (.agg #[.int .i64 0,.int .i64 0,.int .u64 0,.int .u64 0,.int .i64 0]) o z o_ none 0 0 n [] w l_ o_ (by rw[C];omega) o_ s_ (fun _=>rfl) (fun a h=>by cases h)
  refine Calls.mono h ?_;rintro e w' ⟨rfl,rfl⟩;have U:=grownCap_ge w (0+n) 0 33;have E:=grownCap_le_maxLen w (0+n) 0 33 (by unfold maxLen;omega);refine⟨_,_,rfl,⟨by simp,.inr ⟨(w:Nat),_,_,rfl,B_ _,heap_alloc_new w.drew _,A_ _,E,?_,by simp⟩⟩,((Below.refl w w).drew).alloc l_ _⟩;change _=grownCap w (0+n) 0 33 *5;have O:(Value.agg #[.int .i64 0,.int .i64 0,.int .u64 0,.int .u64 0,.int .i64 0]).cells.size=5:=rfl;simp only[b6_,Builtin.zeroCells,Array.size_map,Array.size_range,O];change 0+(0+n - 0)*5+(grownCap w (0+n) 0 33 - (0+n))*5=_;omega
theorem sv1 (P:Option Addr) (n c:Nat) (ls:List (List It)) (w:World) (hn:n<=1000000) (C:ls.flatten.length<=1000000) (hr:nj1 w w P n ls):
  Calls prog 48 #[.slice P n c] w fun e w'=>∃A' c',e=.returned (.slice A' ls.flatten.length c')/\
   w'.ownsRow w 33 5 (.slice A' ls.flatten.length c') ls.flatten.length (itc ls.flatten)/\ls.flatten.length<=c'/\c'<=maxLen/\Below w w w':=by
 obtain⟨i0,a5,a6,a7,a8⟩:=info_parts wz;have b9:ls.length=n:=by obtain⟨_,_,h,_⟩:=hr;exact h
 obtain⟨F,hF⟩:=n_ ls.flatten.length;have HF:=H_ hF;have HB:=H_ C;rw[<-hF]at C ⊢;clear hF;go_enter func48,ntmps48;go_wp2
 go_loop [3,11] (fun x i=>∃k:Nat,k<=n/\i=.int .i64 k/\x=.int .i64 (((ls.take k).flatten.length:Nat):Int)) (fun _ i=>n - (intOf i).toNat)
 case atStart=>exact⟨0,A_ _,rfl,rfl⟩
 case round=>
  obtain⟨k,hk,rfl,rfl⟩:=hrel
  by_cases a9:k < n
  ·obtain⟨a,A,I,c',hl,rfl,_,hc,b0,b1,J⟩:=hr.at_ a9
   have ht:=yy1 hl;have E:=yk2 (ls:=ls) (k+1);have H:(ls.take (k+1)).flatten.length=(ls.take k).flatten.length+I:=by rw[ht,e_,J.yw]
   have b2:(ls.take k).flatten.length+I<=1000000:=by
    have h:ls.flatten.length<=1000000:=HB;omega
   have E1:=H_ H;clear ht E H;generalize (ls.take k).flatten.length=L at *;have d3:((L:Int)+(I:Int) < 0)=False:=by simp;omega
   go_wp2
   go_round
   case rel=>exact⟨k+1,o_,by go_num,by have H:(ls.take (k+1)).flatten.length=L+I:=E1;rw[H];go_num⟩
   case measure=>simp[intOf];omega
  ·obtain rfl:k=n:=o_
   have H:(ls.take k).flatten.length=F:=by
    have h:F=ls.flatten.length:=HF;rw[i_ o_,h]
   rw[H];clear H;go_wp2_with fail;refine(uq4 F C w).mono ?_;rintro e w1 ⟨A1,c1,rfl,b3,E⟩;go_wp2
   go_loopw [6,27] (fun o i wr=>∃(j:Nat) (A':Option Addr) (M c':Nat),j<=k/\o=.slice A' M c'/\i=.int .i64 j/\wr.ownsRow w 33 5 (.slice A' M c') M (itc (ls.take j).flatten)/\Below w w wr) (fun _ i _=>k - (intOf i).toNat)
   case atStart=>exact⟨0,A1,0,c1,A_ _,rfl,rfl,by simpa [itc] using b3,E⟩
   case round=>
    obtain⟨j,A',M,c',hj,rfl,rfl,z,hb⟩:=hrel;have Q:M=(ls.take j).flatten.length:=by
     have h1:=z.1;rw[iw]at h1;omega
    by_cases b5:j < k
    ·obtain⟨a,A,I,c2,hl,rfl,d5,hc,b0,b1,J⟩:=(hr.below hb).at_ b5
     have ht:=yy1 hl;have E:=yk2 (ls:=ls) (j+1);have b2:M+I<=1000000:=by
      have h:ls.flatten.length<=1000000:=HB;have H:(ls.take (j+1)).flatten.length=(ls.take j).flatten.length+I:=by rw[ht,e_,J.yw]
      omega
     have O:itc (ls.take j).flatten++itc ls[j]=itc (ls.take (j+1)).flatten:=by rw[ht,vz]
     have b6:=ax1 ls[j];generalize itc ls[j]=X at *;generalize hY:itc (ls.take (j+1)).flatten=Y at *;generalize itc (ls.take j).flatten=Z at *;have HN:=H_ O;have HY:=H_ hY;clear hY Q ht E O;go_wp2_with (at_builtin;refine iq ?_);refine gz (iy rfl (.tmp 31) (.tmp 32) _ rfl (w:Nat) 33 i0 _ 5 40 underlying34 a5 a6 a7 a8 rfl o_ w hb hb.size _ M Z rfl z w A I c2 X rfl J b6 (M+I) Y rfl HN (by unfold maxLen;omega) o_ ?_);intro A3 c3 w3 U b7 _ d9 d';go_wp2;go_roundw
     case rel=>exact⟨j+1,A3,M+I,c3,o_,rfl,by go_num,by have hY:itc (ls.take (j+1)).flatten=Y:=HY;rw[hY];exact U,b7⟩
     case measure=>simp[intOf];omega
    ·obtain rfl:j=k:=o_
     have H:ls.take j=ls:=i_ o_;rw[H]at z Q;have h:F=ls.flatten.length:=HF;have b8:M=F:=o_
     subst b8;obtain⟨A4,c4,e4,h5,h6,_⟩:=ay z;injection e4 with e5 e6 e7;subst e5;subst e7;clear Q h H;go_wp2;go_ret;exact⟨A',c',rfl,z,h5,h6,hb⟩
end Go.Proofs.YtfbkjjdfboagfaaGreatDoor
namespace Go.Proofs.YtfbkjjdfboagfaaGreatDoor
open Go.Proofs.Tryz Go Go.RowKit Go.Lib Go.Shelf
section
theorem gy4 (n:Nat) (E:n < 18446744073709551616):
  bits .xor .i64 ((n:Int) / 2) (wrap64 (-(wrap64 (bits .and .u64 (n:Int) 1))))=rv1 n:=by
 have h1:bits .and .u64 (n:Int) 1=((n % 2:Nat):Int):=by
  have:=qx2 (BitVec.ofNat 64 n) (BitVec.ofNat 64 1);rw[BitVec.toNat_ofNat,BitVec.toNat_ofNat,aj_ E,BitVec.toNat_and,BitVec.toNat_ofNat,BitVec.toNat_ofNat,aj_ E]at this;rw[show (1:Int)=((1 % 2 ^ 64:Nat):Int) from rfl,this]
  congr 1
  exact Nat.and_one_is_mod n
 have h2:∀a b:Int,bits .xor .i64 a b=IntKind.i64.wrap ((BitVec.ofInt 64 a ^^^ BitVec.ofInt 64 b).toNat:Int):=fun _ _=>rfl;rw[h1,h2];unfold rv1;rw[IntKind.wrap_i64]
 rcases Nat.mod_two_eq_zero_or_one n with o|o
 ·have z:wrap64 (-(wrap64 ((0:Nat):Int)))=0:=by simp[wrap64]
  have C:(n:Int) / 2=((n / 2:Nat):Int):=o_
  rw[if_pos o,o,z,C,show BitVec.ofInt 64 0=0#64 from rfl,BitVec.xor_zero,BitVec.ofInt_natCast,BitVec.toNat_ofNat];omega
 ·have z:wrap64 (-(wrap64 ((1:Nat):Int)))=-1:=by simp[wrap64]
  have C:(n:Int) / 2=((n / 2:Nat):Int):=o_
  rw[if_neg o_,o,z,C,show BitVec.ofInt 64 (-1)=BitVec.allOnes 64 from by decide,BitVec.xor_allOnes,BitVec.toNat_not,BitVec.ofInt_natCast,BitVec.toNat_ofNat];omega
theorem hj4 (n:Nat) (o:n < 18446744073709551616) (w:World):
  Calls prog 250 #[[n]] w fun e w'=>e=.returned (.int .i64 (rv1 n))/\w'=w:=by
 have z:=H_ (gy4 n o);go_enter func250,ntmps250;go_wp2;rw[z.out];go_ret;exact⟨rfl,rfl⟩
def yq5 (B0 N:Nat) (w:World) (R:It×List UInt8×Nat) (e:Ending) (w':World):Prop:=∃A' n' c',e=.returned (.tuple #[R.1.val,.slice A' n' c',(R.2.2:Int)])/\Row B0 w A' n' 1 (bts R.2.1)/\n'<=N/\n'<=c'/\c'<=maxLen/\Below w w w'
def a3 (ns:List Nat):List Value:=[.int .u64 (ns.getD 0 0:Nat),.int .u64 (ns.getD 1 0:Nat),.int .u64 (ns.getD 2 0:Nat)]
theorem cx6 (ns:List Nat) (x:Nat) (h:ns.length < 3):(a3 ns).set ns.length (.int .u64 x)=a3 (ns++[x]):=by
 match ns,h with
 |[],_=>rfl
 |[a],_=>rfl
 |[a,b],_=>rfl
theorem zw5 {w:World} {g:Nat} {cs:List Value} (x:It) (h:BoxO w 33 g cs) (H:cs.length=5):BoxO (((((w.setCell g x.s).setCell (g,1) x.k).setCell (g,2) (.int .u64 x.t)).setCell (g,3) (.int .u64 x.v)).setCell (g,4) x.x) 33 g x.cells/\Chg [g] w (((((w.setCell g x.s).setCell (g,1) x.k).setCell (g,2) (.int .u64 x.t)).setCell (g,3) (.int .u64 x.v)).setCell (g,4) x.x):=by
 obtain⟨o,z,C,a3,E,rfl⟩:∃o z C a3 E,cs=[o,z,C,a3,E]:=by
  match cs,H with
  |[o,z,C,a3,E],_=>exact⟨_,_,_,_,_,rfl⟩
 exact⟨((((h.store 0 _).store 1 _).store 2 _).store 3 _).store 4 _,(((((Chg.refl _ w).setCell _ (.inl s_)).setCell _ (.inl s_)).setCell _ (.inl s_)).setCell _ (.inl s_)).setCell _ (.inl s_)⟩
theorem iv2 {w:World} {g:Nat} {cs:List Value} (h:BoxO w 33 g cs) (H:cs.length=5):∃o z C a3 E,w.cell? g=some o/\w.cell? (g,1)=some z/\w.cell? (g,2)=some C/\w.cell? (g,3)=some a3/\w.cell? (g,4)=some E:=by
 match cs,H with
 |[o,z,C,a3,E],_=>exact⟨o,z,C,a3,E,h.cell 0,h.cell 1,h.cell 2,h.cell 3,h.cell 4⟩
theorem fx6 {w:World} {g k:Nat} {cs:List Value} (h:BoxO w 322 g cs) (o:cs.length=3) (z:k < 3):∃u,w.cell? (g,k)=some u:=by
 rw[h.cell];exact⟨_,j_ o_⟩
theorem px5:∀{k:Nat} {b:List UInt8} {ns:List Nat} {r:List UInt8},It.tks k b=some (ns,r)->∀n∈ns,n < 18446744073709551616
 |0,b,ns,r,h=>by
  obtain⟨rfl,_⟩:=It.ww1 h;simp
 |k+1,b,ns,r,h=>by
  obtain⟨z,q,h1,_,rfl,_⟩:=It.my1 (n:=0) (q:=[]) h;intro n o
  rcases q_.1 o with h2|h2
  ·exact px5 h1 n h2
  ·rw[c_.1 h2]
   exact Pn.qx3 q
theorem wy5 {b:List UInt8} {ns:List Nat} {r:List UInt8} (h:It.tks 3 b=some (ns,r)):ns.getD 2 0 < 18446744073709551616:=by
 have h1:=It.yj1 h;have h2:2 < ns.length:=o_
 rw[t_,j_ h2];exact px5 h _ (w_ h2)
theorem kz37 {P S a oi v} (h:Hv P S a oi v:=by intro w o;(obtain⟨d0,d1⟩:=KC.out w o.1);go_simp;try (with_reducible rfl)):Hv P S a oi v:=h
theorem kz38 {P S a oi v} (h:Hv P S a oi v:=by intro w o;skip;go_simp;try (with_reducible rfl)):Hv P S a oi v:=h
theorem kz39 {P S a oi v} (h:Hv P S a oi v:=by intro w o;(obtain⟨d0,d1,d2⟩:=KZ.out w o.1);go_simp;try (with_reducible rfl)):Hv P S a oi v:=h
theorem one_any (A:Option Addr) (N c:Nat) (b:List UInt8) (w:World) (hN:N<=1000000) (m3:N<=c) (m4:c<=maxLen) (B0:Nat) (f6:B0<=(w:Nat)) (f7:Row B0 w A N 1 (bts b)):
  Calls prog 210 #[.slice A N c] w (yq5 B0 N w (It.take1 b)):=by
 have hr:=f7.up f6;have m5:=hr.xk;have hU:=b_ w (.cells #[.int .i64 0,.int .i64 0,.int .u64 0,.int .u64 0,.int .i64 0] 33);have H:BoxO (w.alloc (.cells #[.int .i64 0,.int .i64 0,.int .u64 0,.int .u64 0,.int .i64 0] 33)) 33 (w:Nat) [.int .i64 0,.int .i64 0,.int .u64 0,.int .u64 0,.int .i64 0]:=BoxO.new w _ 33
 by_cases h2:b.length < 2
 ·have j0:(N:Int) < 2:=o_
  have hR:It.take1 b=(It.bj2,[],4):=by rw[It.zv2,if_pos h2]
  rw[hR];have c0:=H.c0;have c1:=H.c1;have c2:=H.c2;have c3:=H.c3;have c4:=H.c4;have f0:=H.free 0;have f1:=H.free 1;have f2:=H.free 2;have f3:=H.free 3;have f4:=H.free 4;have HB:=H_ hU;clear H hU hR;go_enter func210,ntmps210;go_wp2;refine bodyPost_ret (v:=.tuple #[It.bj2.val,.slice none 0 0,.int .i64 4]) (by simp[results,go_sem,It.val,It.bj2, *]) rfl ⟨none,0,0,rfl,Row.nil_,o_,o_,o_,?_⟩;exact HB
 ·have j0:((N:Int) < 2)=False:=eq_false o_
  obtain⟨p,f9,hA,d3,d0⟩:=hr.bt (k:=0) o_;obtain⟨p',g4,a8,_,d1⟩:=hr.bt (k:=1) o_;rw[hA]at a8;injection a8 with a8;subst a8 hA;have d4:Fr.u b 0=(b[0]).toNat:=by simp[Fr.u,t_,j_ f9]
  have d5:Fr.u b 1=(b[1]).toNat:=by simp[Fr.u,t_,j_ g4]
  rw[<-d4]at d0;rw[<-d5]at d1;obtain⟨s,hs⟩:=n_ (Fr.u b 0);obtain⟨kd,a9⟩:=n_ (Fr.u b 1);rw[<-hs]at d0;rw[<-a9]at d1;have m7:s < 256:=by rw[hs,d4];exact(b[0]).toNat_lt
  have m8:kd < 256:=by rw[a9,d5];exact(b[1]).toNat_lt
  have m9:IntKind.i64.wrap (s:Int)=(s:Int):=M_ _ o_;have m':IntKind.i64.wrap (kd:Int)=(kd:Int):=M_ _ o_;rw[show p.add 0=p from rfl]at d0;rw[show p.add 1=⟨p.block,p.off+1,none⟩ from rfl]at d1;have d6:∀w',Chg [(w:Nat)] (w.alloc (.cells #[.int .i64 0,.int .i64 0,.int .u64 0,.int .u64 0,.int .i64 0] 33)) w'->w'.cell? p=some (.int .u8 s)/\w'.cell? ⟨p.block,p.off+1,none⟩=some (.int .u8 kd):=fun w' hc=>by
   have hb:=hU.trans (hc.below hU.size (fun g hg=>by rw[c_.1 hg];exact B_ _));exact⟨(hb.cell (p:=p) d3).trans d0,(hb.cell (p:=⟨p.block,p.off+1,none⟩) d3).trans d1⟩
  have a':=lx1 hr (s:=2) o_ (A':=some (p.add 2)) (fun _=>rfl);obtain⟨V,hV⟩:=n_ (w.alloc (.cells #[.int .i64 0,.int .i64 0,.int .u64 0,.int .u64 0,.int .i64 0] 33));rw[<-hV]at d6 hU H;have KC:=H_ d6;have HU:=H_ hU;have b0:=H_ H;have HS:=H_ (d_ hs a9);have HR:=H_ f7;have j4:=hV.symm;obtain⟨A2,j5⟩:∃A2,(if c=2 then some p else some ⟨p.block,p.off+2,none⟩)=A2:=⟨_,rfl⟩;have n0:2<=c:=o_
  have n1:0 < N:=o_
  have n2:1 < N:=o_
  have l1:(0:Int) < (N:Int):=o_
  have l2:(1:Int) < (N:Int):=o_
  have j6:2<=N:=o_
  have l3:(2:Int)<=(N:Int):=o_
  clear d6 hU H hs a9 hr hV a' d0 d1 d4 d5;go_enter func210,ntmps210;go_wp2_with fail;refine wp_region_held_drew (S:=fun w'=>Chg [(w:Nat)] V w'/\∃cs:List Value,cs.length=5/\BoxO w' 33 (w:Nat) cs) rfl ⟨(Chg.refl _ V).drew,_,rfl,b0.drew⟩ (fun o=>?_);refine w_v 0 o ?_ (k:=kz37);go_simp;refine w_v 1 o ?_ (k:=kz37);go_simp;refine w_v 2 o ?_ (k:=kz37);go_simp;refine w_v 3 o ?_ (k:=kz37);go_simp;refine w_v 4 o ?_ (k:=kz37);go_simp;refine w_v 5 o ?_ (k:=kz37);go_simp;refine w_v 6 o ?_ (k:=kz37);go_simp;refine w_v 7 o ?_ (k:=kz37);go_simp;refine w_v 8 o ?_ (k:=kz37);go_simp;refine w_r 9 fun K O=>?_
  (obtain⟨cs,E,z⟩:=o.2;obtain⟨_,_,_,_,_,q0,q1,q2,q3,q4⟩:=iv2 z E;have z0:=z.free 0)
  go_simp;refine O.out _ _ ⟨o.1.setCell _ (.inl s_),_,by rw[av_];exact E,z.store 0 _⟩ ?_;clear o O K;intro o;go_simp;refine w_v 10 o ?_ (k:=kz37);go_simp;refine w_r 11 fun K O=>?_
  (obtain⟨cs,E,z⟩:=o.2;obtain⟨_,_,_,_,_,q0,q1,q2,q3,q4⟩:=iv2 z E;have z0:=z.free 1)
  go_simp;refine O.out _ _ ⟨o.1.setCell _ (.inl s_),_,by rw[av_];exact E,z.store 1 _⟩ ?_;clear o O K;intro o;go_simp;refine w_d ?_;clear o KC;have b1:BoxO ((V.setCell w (.int .i64 s)).setCell (w,1) (.int .i64 kd)).drew 33 (w:Nat) [(s:Int),(kd:Int),.int .u64 0,.int .u64 0,.int .i64 0]:=((b0.store 0 _).store 1 _).drew;have d8:Chg [(w:Nat)] V ((V.setCell w (.int .i64 s)).setCell (w,1) (.int .i64 kd)).drew:=(((Chg.refl _ V).setCell _ (.inl s_)).setCell _ (.inl s_)).drew;have j7:(w:Nat) < (V:Nat):=b0.lt;obtain⟨W,hW⟩:=n_ (((V.setCell w (.int .i64 s)).setCell (w,1) (.int .i64 kd)).drew);rw[<-hW]at b1 d8 ⊢;have d9:=HU.trans (d8.below HU.size (fun g hg=>by rw[c_.1 hg];exact B_ _));have a':=lx1 HR.out (s:=2) j6 (A':=A2) (fun n3=>by rw[<-j5,if_neg o_];rfl);have d':=d9.alloc d9.size (.cells #[.int .u64 0,.int .u64 0,.int .u64 0] 322);have e0:=BoxO.new W #[.int .u64 0,.int .u64 0,.int .u64 0] 322;have C:=b1.alloc (.cells #[.int .u64 0,.int .u64 0,.int .u64 0] 322);have j8:=b1.lt;obtain⟨Y,hY⟩:=n_ (W.alloc (.cells #[.int .u64 0,.int .u64 0,.int .u64 0] 322));rw[<-hY]at d' e0 C;have n4:=hY.symm;have g':(w:Nat)≠(W:Nat):=o_
  have h0:(w:Nat)<=(W:Nat):=o_
  have h6:=H_ d';have j':=H_ (show BoxO Y 322 (W:Nat) (a3 []) from e0);have k0:=H_ C;have k1:=H_ a';have e1:=H_ (d_ g' h0);clear b1 d8 hW d9 a' d' e0 C hY j7 j8 j4 b0 HU HR g' h0 d3 f9 g4;go_wp2_with fail
  go_loopw [0,26] (fun bv i wr=>∃(k n:Nat) (A4:Option Addr) (c4:Nat) (ns:List Nat) (r:List UInt8),k<=3/\bv=.slice A4 n c4/\i=.int .i64 k/\Hid (It.tks k (b.drop 2)=some (ns,r)/\Row B0 w A4 n 1 (bts r)/\n<=c4/\c4<=maxLen/\n<=N/\BoxO wr 322 (W:Nat) (a3 ns))/\Chg [(W:Nat)] Y wr) (fun _ i _=>3 - (intOf i).toNat)
  case atStart=>exact⟨0,N - 2,A2,c - 2,[],b.drop 2,o_,by simp,rfl,H_ ⟨rfl,k1,o_,by unfold maxLen at *;omega,o_,j'⟩,Chg.refl _ _⟩
  case round=>
   obtain⟨k,n,A4,c4,ns,r,n5,rfl,rfl,J,hc⟩:=hrel;have Q:=h6.trans (hc.below h6.size (fun g hg=>by rw[c_.1 hg];exact e1.2));have C:=k0.chg hc (by simpa using e1.out.1);have b9:=It.yj1 J.1
   by_cases hk:k < 3
   ·have n6:(k:Int) < 3:=o_
    have l5:IntKind.i64.wrap (k:Int)=(k:Int):=M_ _ o_;have b2:=((J.2.1.up f6).below Q).up Q.size;have n7:=b2.xk;have b3:=take_any A4 n c4 r wr (by have:=J.2.2.2.2.1;omega) b2;have b5:=Pn.take_size (l:=r);obtain⟨x,hx⟩:=n_ ((Pn.take r).1);obtain⟨sz,U⟩:=n_ ((Pn.take r).2.1);obtain⟨er,a4⟩:=n_ ((Pn.take r).2.2);rw[<-hx,<-U,<-a4]at b3;rw[<-a4,<-U]at b5;have b6:=H_ b3;have HX:=H_ hx;have k3:=H_ U;have e2:=H_ a4
    by_cases he:er=0
    ·subst he
     have l7:=b5 rfl;have a5:=It.bw5 J.1 e2.symm;obtain⟨A5,h7⟩:∃A5,(if c4=sz then A4 else Option.map (fun x=>x.add sz) A4)=A5:=⟨_,rfl⟩;have h8:=lx1 J.2.1 (s:=sz) o_ (A':=A5) (fun l8=>by rw[<-h7,if_neg (by have:=J.2.2.1;omega)]);rw[<-HX.out,<-k3.out]at a5;have l9:sz<=n:=o_
     have k4:(sz:Int)<=(n:Int):=o_
     have l':sz<=c4:=by have:=J.2.2.1;omega
     have k5:(sz:Int)<=(c4:Int):=o_
     have HT:=H_ (d_ a5 h8);have h9:=H_ (d_ hc Q);clear b3 b5 a5 h8 b2 hx U a4 C Q b9;go_wp2_with fail;refine b6.mono ?_;rintro e w1 ⟨rfl,e3⟩;subst e3;clear b6;go_wp2_with fail;refine wp_region_held_drew (S:=fun w'=>Chg [(W:Nat)] Y w'/\∃cs:List Value,cs.length=3/\BoxO w' 322 (W:Nat) cs) rfl ⟨h9.1.drew,_,rfl,J.2.2.2.2.2.drew⟩ (fun o=>?_);refine w_v 0 o ?_ (k:=kz38);go_simp;refine w_v 1 o ?_ (k:=kz38);go_simp;refine w_v 2 o ?_ (k:=kz38);go_simp;refine w_v 3 o ?_ (k:=kz38);go_simp;refine w_v 4 o ?_ (k:=kz38);go_simp;refine w_v 5 o ?_ (k:=kz38);go_simp;refine w_r 6 fun K O=>?_
     (obtain⟨cs,E,z⟩:=o.2;obtain⟨_,q0⟩:=fx6 z E hk;have z0:=z.free k)
     go_simp;refine O.out _ _ ⟨o.1.setCell _ (.inl s_),_,by rw[av_];exact E,z.store k _⟩ ?_;clear o O K;intro o;go_simp;refine w_v 7 o ?_ (k:=kz38);go_simp;refine w_d ?_;have h':Chg [(W:Nat)] Y (wr.setCell (W,k) (.int .u64 x)).drew:=(h9.1.setCell _ (.inl s_)).drew;have e4:=(J.2.2.2.2.2.store k (.int .u64 x)).drew;rw[<-It.yj1 J.1,cx6 ns x (by rw[It.yj1 J.1];exact hk),It.yj1 J.1]at e4;have HF:=H_ (d_ e4 h');clear o e4 h';go_wp2;go_roundw
     case rel=>exact⟨k+1,n - sz,A5,c4 - sz,ns++[x],r.drop sz,o_,by simp[h7],by go_num,H_ ⟨HT.1,HT.2,by have:=J.2.2.1;omega,by have:=J.2.2.2.1;omega,by have:=J.2.2.2.2.1;omega,HF.1⟩,HF.2⟩
     case measure=>simp[intOf];omega
    ·have hR:It.take1 b=(It.bj2,[],er):=by rw[It.xv4 h2 hk J.1 (by rw[<-e2.out];exact he),<-e2.out]
     have n9:((er:Int)==0)=false:=by simp;omega
     have q0:=C.c0;have q1:=C.c1;have q2:=C.c2;have q3:=C.c3;have q4:=C.c4;have z0:=C.free 0;have z1:=C.free 1;have z2:=C.free 2;have z3:=C.free 3;have z4:=C.free 4;have a0:=Q.trans ((zw5 It.bj2 C rfl).2.below Q.size (fun g hg=>by rw[c_.1 hg];exact B_ _));have i0:=H_ a0;have HR:=H_ hR;clear b3 b5 b2 hx U a4 C Q b9 a0 hR;go_wp2_with fail;refine b6.mono ?_;rintro e w1 ⟨rfl,e3⟩;subst e3;clear b6;go_wp2;rw[HR.out];refine bodyPost_ret (v:=.tuple #[It.bj2.val,.slice none 0 0,(er:Int)]) (by simp[results,go_sem,It.val,It.bj2, *]) rfl ⟨none,0,0,rfl,Row.nil_,o_,o_,o_,i0⟩
   ·obtain rfl:k=3:=o_
    have hR:=It.gk4 h2 J.1;rw[<-HS.1,<-HS.2]at hR;have i1:=J.2.2.2.2.2;have i2:=fun W1=>hj4 (ns.getD 2 0) (wy5 J.1) W1;have i3:∀w',Chg [(w:Nat)] wr w'->w'.cell? (W:Nat)=some (.int .u64 (ns.getD 0 0:Nat))/\w'.cell? (W,1)=some (.int .u64 (ns.getD 1 0:Nat))/\w'.cell? (W,2)=some (.int .u64 (ns.getD 2 0:Nat)):=fun w' h=>by
     have e:=i1.chg h (by simpa using fun e=>e1.1 e.symm);exact⟨e.cell 0,e.cell 1,e.cell 2⟩
    generalize ns.getD 0 0=t at *;generalize ns.getD 1 0=v at *;generalize ns.getD 2 0=xv at *;have KZ:=H_ i3;have k6:=H_ i2;have HR:=H_ hR;have i5:=H_ Q;have a6:=H_ C;clear i3 i2 hR i1 Q C;go_wp2_with fail;refine wp_region_held_drew (S:=fun w'=>Chg [(w:Nat)] wr w'/\∃cs:List Value,cs.length=5/\BoxO w' 33 (w:Nat) cs) rfl ⟨(Chg.refl _ wr).drew,_,rfl,a6.drew⟩ (fun o=>?_);refine w_v 0 o ?_ (k:=kz39);go_simp;refine w_v 1 o ?_ (k:=kz39);go_simp;refine w_v 2 o ?_ (k:=kz39);go_simp;refine w_v 3 o ?_ (k:=kz39);go_simp;refine w_v 4 o ?_ (k:=kz39);go_simp;refine w_v 5 o ?_ (k:=kz39);go_simp;refine w_v 7 o ?_ (k:=kz39);go_simp;refine w_r 6 fun K O=>?_;go_simp
    with_reducible refine(k6.out _).mono ?_
    rintro e w7 ⟨rfl,rfl⟩;go_simp;refine O.out _ _ o ?_;clear o O K;intro o;go_simp;refine w_r 8 fun K O=>?_
    (obtain⟨cs,E,z⟩:=o.2;obtain⟨_,_,_,_,_,q0,q1,q2,q3,q4⟩:=iv2 z E;have z0:=z.free 2)
    go_simp;refine O.out _ _ ⟨o.1.setCell _ (.inl s_),_,by rw[av_];exact E,z.store 2 _⟩ ?_;clear o O K;intro o;go_simp;refine w_v 9 o ?_ (k:=kz39);go_simp;refine w_r 10 fun K O=>?_
    (obtain⟨cs,E,z⟩:=o.2;obtain⟨_,_,_,_,_,q0,q1,q2,q3,q4⟩:=iv2 z E;have z0:=z.free 3)
    go_simp;refine O.out _ _ ⟨o.1.setCell _ (.inl s_),_,by rw[av_];exact E,z.store 3 _⟩ ?_;clear o O K;intro o;go_simp;refine w_v 11 o ?_ (k:=kz39);go_simp;refine w_r 12 fun K O=>?_
    (obtain⟨cs,E,z⟩:=o.2;obtain⟨_,_,_,_,_,q0,q1,q2,q3,q4⟩:=iv2 z E;have z0:=z.free 4)
    go_simp;refine O.out _ _ ⟨o.1.setCell _ (.inl s_),_,by rw[av_];exact E,z.store 4 _⟩ ?_;clear o O K;intro o;go_simp;refine w_d ?_;have I:BoxO (((wr.setCell (w,2) (.int .u64 t)).setCell (w,3) (.int .u64 v)).setCell (w,4) (.int .i64 (rv1 xv))).drew 33 (w:Nat) [(s:Int),(kd:Int),[t],[v],.int .i64 (rv1 xv)]:=(((a6.store 2 _).store 3 _).store 4 _).drew;have e5:=o.1;clear o;obtain⟨X,hX⟩:=n_ ((((wr.setCell (w,2) (.int .u64 t)).setCell (w,3) (.int .u64 v)).setCell (w,4) (.int .i64 (rv1 xv))).drew);rw[<-hX]at I e5 ⊢;have q0:=I.c0;have q1:=I.c1;have q2:=I.c2;have q3:=I.c3;have q4:=I.c4;have z0:=I.free 0;have z1:=I.free 1;have z2:=I.free 2;have z3:=I.free 3;have z4:=I.free 4;have e6:=i5.trans (e5.below i5.size (fun g hg=>by rw[c_.1 hg];exact B_ _));have a0:=e6.trans ((zw5 ⟨(s:Int),(kd:Int),t,v,rv1 xv⟩ I rfl).2.below e6.size (fun g hg=>by rw[c_.1 hg];exact B_ _));have b':=J.2.1;have HF:=H_ (d_ b' (d_ J.2.2.2.2.1 (d_ J.2.2.1 (d_ J.2.2.2.1 a0))));clear I e5 hX e6 a0 b' a6;go_wp2;rw[HR.out];refine bodyPost_ret (v:=.tuple #[(It.mk (s:Int) (kd:Int) t v (rv1 xv)).val,.slice A4 n c4,.int .i64 0]) (by simp[results,go_sem,It.val, *]) rfl ⟨A4,n,c4,rfl,HF⟩
attribute [local go_sem] Oper.semAt_some
abbrev Ck (m len:Nat):Type:={ x:Nat // x *m < len }
def Ck.len {m len:Nat} (x:Ck m len):Nat:=min m (len - x.1 *m)
def Ck.val (p:Addr) {m len:Nat} (x:Ck m len):Value:=.slice (some (p.add (x.1 *m *5))) x.len x.len
def Ck.of (l:List It) {m len:Nat} (x:Ck m len):List It:=(l.drop (x.1 *m)).take m
theorem gq5 {m len k f:Nat} {L:List It} {pre:List (Ck m len)} (E:1<=m) (H:L.length=len) (C:k *m < len) (h1:(L.drop (k *m)).length<=f) (h2:pre.map (Ck.of L)++Tb.cut m f (L.drop (k *m))=Tb.cut m len L):
  ∃f',(L.drop ((k+1)*m)).length<=f'/\(pre++[(⟨k,C⟩:Ck m len)]).map (Ck.of L)++Tb.cut m f' (L.drop ((k+1)*m))=Tb.cut m len L:=by
 have o:(k+1)*m=k *m+m:=cD_ k m;rw[I_]at h1;obtain⟨f',rfl⟩:∃f',f=f'+1:=⟨f - 1,o_⟩;refine⟨f',by rw[I_,o];omega,?_⟩;have z:L.drop (k *m)≠[]:=fun e=>by
  have:=congrArg List.length e;rw[I_]at this;simp at this;omega
 rw[<-h2,Tb.cut,if_neg z,aW_,o,aK_,J_];rfl
theorem fk3 (F:Fence) (n:Nat) (h7:F.fn 132) (a7:F.round=none) (hn:1<=n) (l O Q:Nat) (Kp:World->World->Prop) (U:∀W z,Kp W z->z.cell? O=W.cell? O/\z.cell? Q=W.cell? Q) (p:Addr) (len cap m:Nat) (L:List It) (hL:L.length=len) (hm:1<=m) (e5:m<=1000) (d1:len<=100000) (d2:len<=cap) (J Jx:List (Ck m len)->World->Prop)
  (a8:∀pre W,J pre W->J pre W.drew) (hY:∀pre x W,J pre W->pre.length *m < len->x.1=pre.length->YieldAt F (n - 1) prog l #[Ck.val p x] W fun e z=>
   (e=.returned (.bool true)/\J (pre++[x]) z/\Kp W z)\/(e=.returned (.bool false)/\Jx (pre++[x]) z))
  (W:World) (a9:W.cell? O=some (.slice (some p) len cap)) (a':W.cell? Q=some (.int .i64 m)) (h0:J [] W):
  CallsIn F n prog 132 #[.func (.yield l) #[] #[],O,Q] W fun e z=>(∃v,e=.returned v)/\
   ((∃ys,ys.map (Ck.of L)=Tb.cut m len L/\J ys z)\/(∃pre,Jx pre z)):=by
 refine callsIn_of_wp func132 rfl h7 ?_ a7;simp only[ntmps132,az_,r_,R_,Nat.reduceAdd,Nat.reduceSub,a0_,a1_,bf_,a7_,D_,U_]
 gi_wp2
 gi_loopw [4] (fun i wr=>∃(k f:Nat) (pre:List (Ck m len)),i=.int .i64 ((k *m:Nat):Int)/\k *m<=len+m/\Hid (pre.length=k/\(L.drop (k *m)).length<=f/\pre.map (Ck.of L)++Tb.cut m f (L.drop (k *m))=Tb.cut m len L)/\J pre wr/\wr.cell? O=some (.slice (some p) len cap)/\wr.cell? Q=some (.int .i64 m))
  (fun i _=>len - (intOf i).toNat)
 case atStart=>exact⟨0,len,[],by simp,by simp,H_ ⟨rfl,by simp[hL],by simp⟩,h0,a9,a'⟩
 case round=>
  obtain⟨k,f,pre,rfl,b0,C,a0,b1,b2⟩:=hrel;obtain⟨q,E⟩:=n_ (k *m);rw[<-E]at C b0 ⊢
  by_cases b3:q < len
  ·have a1:(q:Int) < (len:Int):=o_
   have o:k *m < len:=by rw[<-E];exact b3
   obtain⟨e,he⟩:=n_ (min m (len - q));have e7:0 < e:=o_
   have d6:(0:Int) < (e:Int):=o_
   have e9:q+e<=len:=o_
   have d7:(q:Int)+(e:Int)<=(len:Int):=o_
   have f0:(q:Int)<=(q:Int)+(e:Int):=o_
   have f1:(q:Int)+(e:Int)<=(cap:Int):=o_
   have f2:IntKind.i64.wrap ((q:Int)+(e:Int))=((q+e:Nat):Int):=by rw[M_ _ o_];omega
   have d8:min (m:Int) ((len - q:Nat):Int)=(e:Int):=o_
   obtain⟨fn,tmps,assign,body,hy,hR⟩:=hY pre ⟨k,o⟩ wr.drew (a8 _ _ a0) (by rw[C.1];exact o) C.1.symm;have hv:Ck.val p (⟨k,o⟩:Ck m len)=.slice (some (p.add (q *5))) e e:=by
    unfold Ck.val Ck.len;simp only;rw[<-E,<-he]
   rw[hv]at hy;have e0:(cap=q)=False:=eq_false o_;have b6:(e=0)=False:=eq_false o_;have b7:=H_ (show ∃f',(L.drop ((k+1)*m)).length<=f'/\(pre++[(⟨k,o⟩:Ck m len)]).map (Ck.of L)++Tb.cut m f' (L.drop ((k+1)*m))=Tb.cut m len L from gq5 hm hL o (by rw[<-E];exact C.2.1) (by rw[<-E];exact C.2.2));have b8:=H_ C.1;have a2:(k+1)*m=q+m:=by rw[E];exact cD_ k m
   have e1:IntKind.i64.wrap ((q:Int)+(m:Int))=((q+m:Nat):Int):=by rw[M_ _ o_];omega
   have a4:=H_ a2;have HR:=H_ hR;have HE:=H_ (d_ he E);clear hR hv he E hY a2 C
   gi_wp2
   gi_region
   all_goals gi_wp2
   all_goals
    refine HR.mono ?_;rintro e' W3 (⟨rfl,b9,I⟩|⟨rfl,a5⟩)
    ·have b':W3.cell? O=some (.slice (some p) len cap):=(U _ _ I).1.trans b1
     have c9:W3.cell? Q=some (.int .i64 m):=(U _ _ I).2.trans b2;clear I
     gi_wp2
     go_roundw
     case rel=>
      obtain⟨f',z1,z2⟩:=b7.out;exact⟨k+1,f',pre++[⟨k,o⟩],by rw[a4.out];go_num,by rw[a4.out];omega,H_ ⟨by rw[e_,b8.out];rfl,z1,z2⟩,b9,b',c9⟩
     case measure=>simp[intOf];omega
    ·gi_wp2
     refine bodyPost_ret (results_none rfl _ _ _) rfl ?_;exact⟨⟨_,rfl⟩,.inr ⟨_,a5⟩⟩
  ·have a1:((q:Int) < (len:Int))=False:=eq_false o_
   have H:pre.map (Ck.of L)=Tb.cut m len L:=by
    have h1:=C.2.2;rw[aC_ o_]at h1;rw[<-h1]
    cases f<;>simp[Tb.cut]
   have a6:=H_ H;clear H C E
   gi_wp2
   go_end0
   exact⟨⟨_,rfl⟩,.inl ⟨_,a6,a0⟩⟩
theorem vk1 (F:Fence) (n:Nat) (C:F.fn 132) (o:F.round=none) (l z E cap:Nat) (A:Option Addr) (J:World->Prop) (W:World) (H:W.cell? z=some (.slice A 0 cap)) (I:J W):
  CallsIn F n prog 132 #[.func (.yield l) #[] #[],z,E] W fun e O=>(∃v,e=.returned v)/\J O:=by
 refine callsIn_of_wp func132 rfl C ?_ o;simp only[ntmps132,az_,r_,R_,Nat.reduceAdd,Nat.reduceSub,a0_,a1_,bf_,a7_,D_,U_]
 gi_wp2
 gi_loopw [4] (fun i wr=>i=.int .i64 0/\wr=W) (fun _ _=>0)
 case atStart=>exact⟨rfl,rfl⟩
 case round=>
  obtain⟨rfl,rfl⟩:=hrel
  gi_wp2
  go_end0
  exact⟨⟨_,rfl⟩,I⟩
theorem pz3 (F:Fence) (n:Nat) (h7:F.fn 132) (C:F.round=none) (hn:1<=n) (o z:Nat) (Kp:World->World->Prop) (Q:∀W E,Kp W E->E.cell? o=W.cell? o/\E.cell? z=W.cell? z) (p:Addr) (A:Option Addr) (len cap m:Nat) (hA:0 < len->A=some p) (L:List It) (hL:L.length=len) (hm:1<=m) (U:m<=1000) (H:len<=100000) (I:len<=cap) (w:World) (a0:o < (w:Nat)) (a1:z < (w:Nat))
  (a2:w.cell? o=some (.slice A len cap)) (a4:w.cell? z=some (.int .i64 m)):
  SeqStopsK F n prog 132 #[o,z] (fun x:Ck m len=>#[Ck.val p x]) Kp (fun ys=>ys.map (Ck.of L)=Tb.cut m len L) (fun _=>True) len w:=fun l J Jx W hW hJ _ hY h0=>by
 have c1:=(hW.cell (p:=⟨o,0,none⟩) a0).trans a2;have c2:=(hW.cell (p:=⟨z,0,none⟩) a1).trans a4;have a6:∀pre W,J pre W->J pre W.drew:=fun pre W h=>hJ pre W _ none h ⟨rfl,rfl,rfl,B_ _,fun _ _ _=>rfl⟩ (fun r e=>by cases e)
 rcases an_ len with h|h
 ·subst h
  refine(vk1 F n h7 C l o z cap A (fun W=>J [] W) W c1 h0).mono ?_;rintro e E ⟨O,hj⟩;exact⟨O,.inl ⟨[],by simp[Tb.cut],hj⟩⟩
 ·rw[hA h]at c1
  refine(fk3 F n h7 C hn l o z Kp Q p len cap m L hL hm U H I J Jx a6 (fun pre x W hj hl _=>hY pre x W hj (by have:=Nat.le_mul_of_pos_right pre.length hm;omega)) W c1 c2 h0).mono ?_;rintro e E ⟨O,⟨ys,h1,h2⟩|⟨pre,h1⟩⟩
  ·exact⟨O,.inl ⟨ys,h1,h2⟩⟩
  ·exact⟨O,.inr ⟨pre,trivial,h1⟩⟩
theorem ty2 (F:Fence) (n:Nat) (h5:F.fn 65) (o:F.round=none) (a:Option Addr) (len cap m:Nat) (z:1<=m) (w:World):
  CallsIn F n prog 65 #[.slice a len cap,(m:Int)] w fun e w'=>e=.returned (.func (.func 132) #[] #[(w:Nat),.pointer (some ⟨(w:Nat)+1,0,none⟩)])/\w'=(w.alloc (.cells #[.slice a len cap] 34)).alloc (.cells #[(m:Int)] 3):=by
 have h1:((m:Int) < 1)=False:=eq_false o_;refine callsIn_of_wp func65 rfl h5 ?_ o;simp only[ntmps65,az_,r_,R_,Nat.reduceAdd,Nat.reduceSub,a0_,a1_,bf_,a7_,D_,U_]
 gi_wp2
 go_ret;exact⟨rfl,rfl⟩
end
end Go.Proofs.YtfbkjjdfboagfaaGreatDoor
