/- Texts ItemB, ItemC, StateA, StateB, ItemL, FilesOpen, RefV, AtomI, RefE, Same in one. No conditions. -/
import Derived.Test.YthjdpplgfdihoaaGreatDoorBunAG
import Derived.Test.YthjdpplgfdihoaaGreatDoorBunAF
import Derived.Lib.SmallJoins

set_option linter.unusedSimpArgs false
set_option linter.unusedVariables false
set_option maxRecDepth 100000
set_option maxHeartbeats 16000000
namespace Go.Proofs.YthjdpplgfdihoaaGreatDoor
section
open Go Go.RowKit
theorem ly3 (K:Nat) (hF:∀args w,(callFunc K args).run Tryz.prog w=.ok (.enter K args) w) (cap:Array Value) (P:It→Bool) (A:Option Addr) (n c:Nat) (l:List It) (w:World) (hn:n≤1000000) (hr:Row w.heap.size w A n 5 (itc l))
  (hK:∀x w1,Below w.heap.size w w1→Calls Tryz.prog K (#[x.val] ++cap) w1 fun e w'=>e=.returned (.bool (P x))∧Below w1.heap.size w1 w'):
  Calls Tryz.prog 203 #[.slice A n c,.func (.func K) #[] cap] w fun e w'=>e=.returned (.int .i64 (fidx P l))∧Below w.heap.size w w':=by
 have hnn:=hr.uz;have HK:=H_ hK;have HF:=H_ hF;clear hK hF;go_enter Tryz.func203,Tryz.ntmps203;go_wp2
 go_loopw [8] (fun i wr=>∃k:Nat,k≤n∧i=.int .i64 (k:Int)∧Hid ((l.take k).any P=false)∧Below w.heap.size w wr) (fun i _=>n - (intOf i).toNat)
 case atStart=>exact⟨0,t_ _,rfl,H_ rfl,Below.refl _ _⟩
 case round=>
  obtain⟨k,hk,rfl,hb,hbl⟩:=hrel
  by_cases hlt:k < n
  ·obtain⟨a,hl,rfl,hbk,c0,c1,c2,c3,c4⟩:=(hr.below hbl).it hlt
   have ht:=mz1 (P:=P) hl;have hs:=fun h1=>fw1 (P:=P) hl hb.out h1;generalize l[k]=f at *;have HT:=H_ ht;have HS:=H_ hs;clear ht hs hl;have hc:=HK.out f wr hbl;unfold It.val at hc;generalize hp:P f=p at hc;have HP:=H_ hp;clear hp;go_wp2_with fail;rw[HF.out,Oper.upon_enter];refine hc.mono ?_;rintro e w1 ⟨rfl,hb1⟩
   cases p with
   |true=>
    go_wp2;go_ret;exact⟨uy1 (HS.out HP.out).symm,az hbl hb1⟩
   |false=>
    go_wp2;go_roundw
    case rel=>exact⟨k+1,by omega,by go_num,H_ (by rw[HT.out,hb.out,HP.out];rfl),az hbl hb1⟩
    case measure=>simp[intOf];omega
  ·have hall:fidx P l=-1:=zq (by
    have hb':=hb.out
    rwa [i_ (by omega)]at hb')
   have HA:=H_ hall;clear hall;go_wp2;go_ret;exact⟨uy1 HA.out.symm,hbl⟩
theorem qy1 (K:Nat) (hF:∀args w,(callFunc K args).run Tryz.prog w=.ok (.enter K args) w) (cap:Array Value) (P:It→Bool) (A:Option Addr) (n c:Nat) (l:List It) (w:World) (hn:n≤1000000) (hr:Row w.heap.size w A n 5 (itc l))
  (hK:∀x w1,Below w.heap.size w w1→Calls Tryz.prog K (#[x.val] ++cap) w1 fun e w'=>e=.returned (.bool (P x))∧Below w1.heap.size w1 w'):
  Calls Tryz.prog 118 #[.slice A n c,.func (.func K) #[] cap] w fun e w'=>e=.returned (.bool (l.any P))∧Below w.heap.size w w':=by
 have hge:=wx1 P l;have hq:=ly3 K hF cap P A n c l w hn hr hK;clear hK;generalize fidx P l=i at *;have HGE:=H_ hge;clear hge;go_enter Tryz.func118,Tryz.ntmps118;go_wp2_with fail;refine hq.mono ?_;rintro e w1 ⟨rfl,hb⟩;clear hq;go_wp2;go_ret;exact⟨ix1 HGE.out,hb⟩
end
section
open Go Go.RowKit
theorem lw2 (l:List It):l.any (fun x=>!x.ok)= !l.all It.ok:=by
 induction l with
 |nil=>rfl
 |cons a l ih=>simp[ih,Bool.not_and]
theorem mx3 {l:List It} {j:Nat} (h:j+1 < l.length):decide (uq (l.take (j+2)))=(decide (uq (l.take (j+1))) &&It.less l[j] l[j+1]):=by
 have e:l.take (j+2)=l.take (j+1)++[l[j+1]]:=o_ h;have iff:uq (l.take (j+2))↔uq (l.take (j+1))∧It.less l[j] l[j+1]=true:=by
  rw[e];unfold uq;rw[ba_];constructor
  ·rintro⟨h1,_,h2⟩
   exact⟨h1,h2 _ (av_.2 ⟨j,by omega,rfl⟩) _ (by simp)⟩
  ·rintro⟨h1,h2⟩
   refine⟨h1,List.pairwise_singleton _ _,fun a ha b hb=>?_⟩;obtain rfl:b=l[j+1]:=by simpa using hb
   obtain⟨i,hi,rfl⟩:=av_.1 ha
   rcases T_ i j with h3|h3
   ·have h4:=ai_.1 h1 i j (by simp;omega) (by simp;omega) h3
    simp only[List.getElem_take]at h4;exact It.rk1 h4 h2
   ·have:i=j:=by omega
    subst this;exact h2
 cases h3:It.less l[j] l[j+1] <;>simp[iff,h3]
theorem ey4 {l:List It} {k:Nat} (h:decide (uq (l.take k))=false):decide (uq l)=false:=by
 simp only[decide_eq_false_iff_not]at h ⊢;exact fun h2=>h (h2.sublist (b4_ _ _))
theorem py4 (a:It) (w:World):Calls Tryz.prog 202 #[a.val] w fun e w'=>e=.returned (.bool (!a.ok))∧Below w.heap.size w w':=by
 have hok:=fun W=>nk1 a W;unfold It.val at hok ⊢;go_enter Tryz.func202,Tryz.ntmps202;go_wp2_with fail;refine(hok _).mono ?_;rintro e w1 ⟨rfl,hb⟩;go_wp2;go_ret;exact⟨rfl,az (b_ _ _) hb⟩
theorem rz4 (a:It) (w:World):Calls Tryz.prog 168 #[a.val] w fun e w'=>e=.returned (.bool (!a.ok))∧Below w.heap.size w w':=by
 have hok:=fun W=>nk1 a W;unfold It.val at hok ⊢;go_enter Tryz.func168,Tryz.ntmps168;go_wp2_with fail;refine(hok _).mono ?_;rintro e w1 ⟨rfl,hb⟩;go_wp2;go_ret;exact⟨rfl,az (b_ _ _) hb⟩
theorem rw3 (a:It) (w:World):Calls Tryz.prog 261 #[a.val] w fun e w'=>e=.returned (.bool (!a.ok))∧Below w.heap.size w w':=by
 have hok:=fun W=>nk1 a W;unfold It.val at hok ⊢;go_enter Tryz.func261,Tryz.ntmps261;go_wp2_with fail;refine(hok _).mono ?_;rintro e w1 ⟨rfl,hb⟩;go_wp2;go_ret;exact⟨rfl,az (b_ _ _) hb⟩
theorem px1 (A:Option Addr) (n c:Nat) (l:List It) (w:World) (hn:n≤1000000) (hr:Row w.heap.size w A n 5 (itc l)):
  Calls Tryz.prog 116 #[.slice A n c] w fun e w'=>e=.returned (.bool (l.all It.ok))∧Below w.heap.size w w':=by
 have h:=qy1 202 (fun _ _=>rfl) #[] (fun x=>!x.ok) A n c l w hn hr (fun x w1 _=>py4 x w1);rw[lw2]at h;go_enter Tryz.func116,Tryz.ntmps116;go_wp2_with fail;refine h.mono ?_;rintro e w1 ⟨rfl,hb⟩;clear h;go_wp2;go_ret;exact⟨gy (by simp),hb⟩
theorem kz34 {P S a oi v} (h:Hv P S a oi v:=by intro w hSw;(obtain⟨c0,c1,c2,c3,c4,d0,d1,d2,d3,d4⟩:=KC.out w hSw);go_simp;try (with_reducible rfl)):Hv P S a oi v:=h
theorem jj2 (A:Option Addr) (n c:Nat) (l:List It) (w:World) (hn:n≤1000000) (hr:Row w.heap.size w A n 5 (itc l)):
  Calls Tryz.prog 260 #[.slice A n c] w fun e w'=>e=.returned (.bool (decide (uq l)))∧Below w.heap.size w w':=by
 have hnn:=hr.uz;go_enter Tryz.func260,Tryz.ntmps260;go_wp2
 go_loopw [3] (fun i wr=>∃j k:Nat,Hid (k=j+1)∧(j+1≤n∨j=0)∧i=.int .i64 (k:Int)∧Hid (decide (uq (l.take (j+1)))=true)∧Below w.heap.size w wr) (fun i _=>n - (intOf i).toNat)
 case atStart=>exact⟨0,1,H_ rfl,.inr rfl,rfl,H_ (by
  cases l with
  |nil=>rfl
  |cons a r=>simp[uq]),Below.refl _ _⟩
 case round=>
  obtain⟨j,k,HK,hj,rfl,hR,hbl⟩:=hrel
  by_cases hlt:k < n
  ·have hlt2:j+1 < n:=by have:=HK.out;omega
   obtain⟨a,hl,rfl,hbk,c0,c1,c2,c3,c4⟩:=(hr.below hbl).it (k:=j) (by omega);obtain⟨a2,hl2,ea,hbk2,hd⟩:=(hr.below hbl).it hlt2;injection ea with ea;subst ea;have ht:=mx3 (l:=l) (j:=j) (by omega);rw[hR.out,b8_]at ht;have hoff:=fun h=>ey4 (l:=l) (k:=j+2) h;generalize l[j]=x at *;generalize l[j+1]=y at *;rw[←HK.out]at hd;have hkj:(k:Int) - 1=(j:Int):=by have:=HK.out;omega
   have hwj:IntKind.i64.wrap (j:Int)=(j:Int):=F_ _ (by omega);have hjn:(j:Int) < (n:Int):=by omega
   have hle:=fun W=>ez1 x y W;unfold It.val at hle;obtain⟨b,hb⟩:=n_ (x.less y);rw[←hb]at hle ht;have hkc:∀w',Below wr.heap.size wr w'→w'.cell? (a.add (j *5))=some (.int .i64 x.s)∧w'.cell? ⟨(a.add (j *5)).block,(a.add (j *5)).off+1,none⟩=some (.int .i64 x.k)∧w'.cell? ⟨(a.add (j *5)).block,(a.add (j *5)).off+2,none⟩=some (.int .u64 (x.t:Int))∧w'.cell? ⟨(a.add (j *5)).block,(a.add (j *5)).off+3,none⟩=some (.int .u64 (x.v:Int))∧w'.cell? ⟨(a.add (j *5)).block,(a.add (j *5)).off+4,none⟩=some (.int .i64 x.x)∧
     w'.cell? (a.add (k *5))=some (.int .i64 y.s)∧w'.cell? ⟨(a.add (k *5)).block,(a.add (k *5)).off+1,none⟩=some (.int .i64 y.k)∧w'.cell? ⟨(a.add (k *5)).block,(a.add (k *5)).off+2,none⟩=some (.int .u64 (y.t:Int))∧w'.cell? ⟨(a.add (k *5)).block,(a.add (k *5)).off+3,none⟩=some (.int .u64 (y.v:Int))∧w'.cell? ⟨(a.add (k *5)).block,(a.add (k *5)).off+4,none⟩=some (.int .i64 y.x):=fun w' hb=>by
    have h1:=ItAt.below (B:=wr.heap.size) (w':=w') ⟨c0,c1,c2,c3,c4⟩ (L_ hbk hbl.size) hb;have h2:=hd.below (B:=wr.heap.size) (w':=w') (L_ hbk hbl.size) hb;exact⟨h1.c0,h1.c1,h1.c2,h1.c3,h1.c4,h2.c0,h2.c1,h2.c2,h2.c3,h2.c4⟩
   have hw1:IntKind.i64.wrap ((k:Int) - 1)=(j:Int):=by rw[hkj];exact F_ _ (by omega)
   have KC:=H_ hkc;have HL:=H_ hle;have HT:=H_ ht;have HO:=H_ hoff;clear hkc hle ht hoff hb hd c0 c1 c2 c3 c4;go_wp2_with fail;refine wp_region_held_drew (S:=fun w'=>Below wr.heap.size wr w') rfl (ak b0_) (fun hSw=>?_);refine w_v 0 hSw ?_ (k:=kz34);go_simp;refine w_v 1 hSw ?_ (k:=kz34);go_simp;refine w_v 2 hSw ?_ (k:=kz34);go_simp;refine w_v 3 hSw ?_ (k:=kz34);go_simp;refine w_v 4 hSw ?_ (k:=kz34);go_simp;refine w_v 5 hSw ?_ (k:=kz34);go_simp;refine w_v 6 hSw ?_ (k:=kz34);go_simp;refine w_v 7 hSw ?_ (k:=kz34);go_simp;refine w_v 8 hSw ?_ (k:=kz34);go_simp;refine w_r 9 fun K hK=>?_;go_simp
   with_reducible refine(HL.out _).mono ?_
   rintro e w1 ⟨rfl,hb1⟩;go_simp;refine hK.out _ _ (hSw.trans (hb1.mono hSw.size)) ?_;clear hSw hK K;intro hSw;go_simp;refine w_v 10 hSw ?_ (k:=kz34);go_simp;refine wpAnyH_done (by kernel_rfl) ?_ _;have hbz:=hbl.trans (hSw.mono hbl.size);clear hSw KC HL
   cases b with
   |true=>
    go_wp2;go_roundw
    case rel=>exact⟨k,k+1,H_ rfl,.inl (by omega),by go_num,H_ (by rw[HK.out];exact HT.out),hbz⟩
    case measure=>simp[intOf];omega
   |false=>
    go_wp2;go_ret;exact⟨gy (HO.out HT.out).symm,hbz⟩
  ·have hfin:decide (uq l)=true:=by
    have:=hR.out
    rwa [i_ (by have:=HK.out;omega)]at this
   have HF:=H_ hfin;clear hfin;go_wp2;go_ret;exact⟨gy HF.out.symm,hbl⟩
end
section
open Go Go.RowKit
theorem cz2 {l:List It} (h:uq l) (x:It) {k:Nat} (hk:k < l.length):It.less l[k] x=decide (k < pos l x):=by
 obtain⟨h1,h2⟩:=az2 h x
 rcases T_ k (pos l x) with h3|h3
 ·have:l[k]∈l.take (pos l x):=av_.2 ⟨k,by omega,rfl⟩
  rw[h1]at this;simp[(ab_.1 this).2,h3]
 ·have:l[k]∈l.drop (pos l x):=bt_.2 ⟨k - pos l x,by simp;omega,by simp[Nat.add_sub_cancel' h3]⟩
  rw[h2]at this;have h4:=(ab_.1 this).2;simp only[bp_]at h4;rw[h4];simp;omega
def pcmp (a b:It):Int:=if a.less b=true then -1 else 1
theorem jz2 (a b:It) (w:World):Calls Tryz.prog 303 #[a.val,b.val] w fun e w'=>e=.returned (.int .i64 (pcmp a b))∧Below w.heap.size w w':=by
 have hle:=fun W=>ez1 a b W;have hb0:=(b_ w (.cells #[.int .i64 a.s,.int .i64 a.k,.int .u64 (a.t:Int),.int .u64 (a.v:Int),.int .i64 a.x] 36)).alloc (by simp) (.cells #[.int .i64 b.s,.int .i64 b.k,.int .u64 (b.t:Int),.int .u64 (b.v:Int),.int .i64 b.x] 36);unfold pcmp;unfold It.val at hle ⊢;generalize a.less b=p at *;have HL:=H_ hle;clear hle;go_enter Tryz.func303,Tryz.ntmps303;go_wp2_with fail;refine(HL.out _).mono ?_;rintro e w1 ⟨rfl,hb1⟩;have hbz:=az hb0 hb1
 cases p
 all_goals
  go_wp2;go_ret;exact⟨rfl,hbz⟩
theorem kz9 {P S a oi v} (h:Hv P S a oi v:=by intro w hSw;(obtain⟨⟨c0,c1,c2,c3,c4⟩,d0,d1,d2,d3,d4⟩:=KC.out w hSw);go_simp;try (with_reducible rfl)):Hv P S a oi v:=h
theorem kz10 {P S a oi v} (h:Hv P S a oi v:=by intro w hSw;skip;go_simp;try (with_reducible rfl)):Hv P S a oi v:=h
theorem qx2 (A:Option Addr) (n c:Nat) (l:List It) (x:It) (w:World) (hn:n≤1000000) (hR:uq l) (hr:Row w.heap.size w A n 5 (itc l)):
  Calls Tryz.prog 302 #[.slice A n c,x.val,.func (.func 303) #[] #[]] w fun e w'=>e=.returned (.tuple #[.int .i64 (pos l x:Int),.bool false])∧Below w.heap.size w w':=by
 have hnn:=hr.uz;have hpl:=sj2 l x;have hbV:=b_ w (.cells #[.int .i64 x.s,.int .i64 x.k,.int .u64 (x.t:Int),.int .u64 (x.v:Int),.int .i64 x.x] 36);have hbx:=BoxO.new w #[.int .i64 x.s,.int .i64 x.k,.int .u64 (x.t:Int),.int .u64 (x.v:Int),.int .i64 x.x] 36;obtain⟨r,hrp⟩:=n_ (pos l x);rw[←hrp]at hpl ⊢;have HRP:=H_ hrp;clear hrp;unfold It.val;go_enter Tryz.func302,Tryz.ntmps302;go_wp2_with fail;generalize w.alloc (.cells #[.int .i64 x.s,.int .i64 x.k,.int .u64 (x.t:Int),.int .u64 (x.v:Int),.int .i64 x.x] 36)=V at *;obtain⟨g,hg⟩:=n_ w.heap.size;rw[←hg]at hbx ⊢;clear hg
 go_loopw [9,10] (fun i j wr=>∃p q:Nat,p≤r∧r≤q∧q≤n∧i=.int .i64 (p:Int)∧j=.int .i64 (q:Int)∧Below V.heap.size V wr) (fun i j _=>(intOf j).toNat - (intOf i).toNat)
 case atStart=>exact⟨0,n,t_ _,by omega,x_ _,rfl,rfl,Below.refl _ _⟩
 case round=>
  obtain⟨p,q,hp,hq,hqn,rfl,rfl,hbl⟩:=hrel;have hbz:∀w',Below wr.heap.size wr w'→Below V.heap.size V w':=fun w' h=>hbl.trans (h.mono hbl.size)
  by_cases hlt:p < q
  ·obtain⟨m,hm⟩:=n_ ((p+q) / 2)
   have hm1:p≤m∧m < q:=by omega
   have hmn:(m:Int) < (n:Int):=by omega
   have hwm:IntKind.i64.wrap (m:Int)=(m:Int):=F_ _ (by omega);have HMM:=H_ (show ((p:Int)+(q:Int)) / 2=(m:Int) by omega);clear hm;obtain⟨a,hl,rfl,hbk,hd⟩:=((hr.below hbV).up hbV.size|>.below hbl).it (k:=m) (by omega);have hlp:=cz2 hR x hl;generalize l[m]=y at *;have hcm:=fun W=>jz2 y x W;unfold It.val pcmp at hcm;rw[hlp]at hcm;have hkc:∀w',Below wr.heap.size wr w'→(w'.cell? (a.add (m *5))=some (.int .i64 y.s)∧w'.cell? ⟨(a.add (m *5)).block,(a.add (m *5)).off+1,none⟩=some (.int .i64 y.k)∧w'.cell? ⟨(a.add (m *5)).block,(a.add (m *5)).off+2,none⟩=some (.int .u64 (y.t:Int))∧w'.cell? ⟨(a.add (m *5)).block,(a.add (m *5)).off+3,none⟩=some (.int .u64 (y.v:Int))∧w'.cell? ⟨(a.add (m *5)).block,(a.add (m *5)).off+4,none⟩=some (.int .i64 y.x))∧w'.cell? ⟨g,0,none⟩=some (.int .i64 x.s)∧w'.cell? ⟨g,1,none⟩=some (.int .i64 x.k)∧w'.cell? ⟨g,2,none⟩=some (.int .u64 (x.t:Int))∧w'.cell? ⟨g,3,none⟩=some (.int .u64 (x.v:Int))∧w'.cell? ⟨g,4,none⟩=some (.int .i64 x.x):=fun w' hb=>by
    have h1:=hd.below (B:=wr.heap.size) (w':=w') (L_ hbk hbl.size) hb;have h2:=(hbx.below hbl).below hb;exact⟨⟨h1.c0,h1.c1,h1.c2,h1.c3,h1.c4⟩,h2.cell 0,h2.cell 1,h2.cell 2,h2.cell 3,h2.cell 4⟩
   have KC:=H_ hkc;have HL:=H_ hcm;clear hkc hcm hd hlp;rw[←HRP.out]at HL;obtain⟨b,hb⟩:=n_ (decide (m < r));rw[←hb]at HL;go_wp2_with fail;rw[HMM.out];refine wp_region_held_drew (S:=fun w'=>Below wr.heap.size wr w') rfl (ak b0_) (fun hSw=>?_);refine w_v 0 hSw ?_ (k:=kz9);go_simp;refine w_v 1 hSw ?_ (k:=kz9);go_simp;refine w_v 2 hSw ?_ (k:=kz9);go_simp;refine w_v 3 hSw ?_ (k:=kz9);go_simp;refine w_v 4 hSw ?_ (k:=kz9);go_simp;refine w_v 5 hSw ?_ (k:=kz9);go_simp;refine w_r 6 fun K hK=>?_;go_simp
   with_reducible refine(HL.out _).mono ?_
   rintro e w1 ⟨rfl,hb1⟩;go_simp;refine hK.out _ _ (hSw.trans (hb1.mono hSw.size)) ?_;clear hSw hK K;intro hSw;go_simp;refine w_v 7 hSw ?_ (k:=kz9);go_simp;refine wpAnyH_done (by kernel_rfl) ?_ _;have hby:=hbz _ hSw;clear hSw KC HL
   cases b with
   |true=>
    have hmr:m < r:=by simpa using hb.symm
    go_wp2;go_roundw
    case rel=>exact⟨m+1,q,by omega,hq,hqn,by go_num,rfl,hby⟩
    case measure=>simp[intOf];omega
   |false=>
    have hmr:¬m < r:=by simpa using hb.symm
    go_wp2;go_roundw
    case rel=>exact⟨p,m,hp,by omega,by omega,rfl,rfl,hby⟩
    case measure=>simp[intOf];omega
  ·have hpr:p=r:=by omega
   subst hpr;have hno:((p:Int) < (q:Int))=False:=eq_false (by omega)
   by_cases hpn:p < n
   ·have hpn2:(p:Int) < (n:Int):=by omega
    obtain⟨a,hl,rfl,hbk,hd⟩:=((hr.below hbV).up hbV.size|>.below hbl).it (k:=p) (by omega);have hlp:=cz2 hR x hl;generalize l[p]=y at *;have hcm:=fun W=>jz2 y x W;unfold It.val pcmp at hcm;rw[hlp]at hcm;have hkc:∀w',Below wr.heap.size wr w'→(w'.cell? (a.add (p *5))=some (.int .i64 y.s)∧w'.cell? ⟨(a.add (p *5)).block,(a.add (p *5)).off+1,none⟩=some (.int .i64 y.k)∧w'.cell? ⟨(a.add (p *5)).block,(a.add (p *5)).off+2,none⟩=some (.int .u64 (y.t:Int))∧w'.cell? ⟨(a.add (p *5)).block,(a.add (p *5)).off+3,none⟩=some (.int .u64 (y.v:Int))∧w'.cell? ⟨(a.add (p *5)).block,(a.add (p *5)).off+4,none⟩=some (.int .i64 y.x))∧w'.cell? ⟨g,0,none⟩=some (.int .i64 x.s)∧w'.cell? ⟨g,1,none⟩=some (.int .i64 x.k)∧w'.cell? ⟨g,2,none⟩=some (.int .u64 (x.t:Int))∧w'.cell? ⟨g,3,none⟩=some (.int .u64 (x.v:Int))∧w'.cell? ⟨g,4,none⟩=some (.int .i64 x.x):=fun w' hb=>by
     have h1:=hd.below (B:=wr.heap.size) (w':=w') (L_ hbk hbl.size) hb;have h2:=(hbx.below hbl).below hb;exact⟨⟨h1.c0,h1.c1,h1.c2,h1.c3,h1.c4⟩,h2.cell 0,h2.cell 1,h2.cell 2,h2.cell 3,h2.cell 4⟩
    have KC:=H_ hkc;have HL:=H_ hcm;clear hkc hcm hd hlp;rw[←HRP.out]at HL;simp only[Nat.lt_irrefl,decide_false,ao_,if_false]at HL;go_wp2_with fail;refine wp_region_held_drew (S:=fun w'=>Below wr.heap.size wr w') rfl (ak b0_) (fun hSw=>?_);refine w_v 0 hSw ?_ (k:=kz9);go_simp;refine w_v 1 hSw ?_ (k:=kz9);go_simp;refine w_v 2 hSw ?_ (k:=kz9);go_simp;refine w_v 3 hSw ?_ (k:=kz9);go_simp;refine w_v 4 hSw ?_ (k:=kz9);go_simp;refine w_v 5 hSw ?_ (k:=kz9);go_simp;refine w_v 6 hSw ?_ (k:=kz9);go_simp;refine w_v 7 hSw ?_ (k:=kz9);go_simp;refine w_v 8 hSw ?_ (k:=kz9);go_simp;refine w_v 9 hSw ?_ (k:=kz9);go_simp;refine w_v 10 hSw ?_ (k:=kz9);go_simp;refine w_r 11 fun K hK=>?_;go_simp
    with_reducible refine(HL.out _).mono ?_
    rintro e w1 ⟨rfl,hb1⟩;go_simp;refine hK.out _ _ (hSw.trans (hb1.mono hSw.size)) ?_;clear hSw hK K;intro hSw;go_simp;refine w_v 12 hSw ?_ (k:=kz9);go_simp;refine w_v 13 hSw ?_ (k:=kz9);go_simp;refine w_v 14 hSw ?_ (k:=kz9);go_simp;refine w_v 15 hSw ?_ (k:=kz9);go_simp;refine wpAnyH_done (by kernel_rfl) ?_ _;have hby:=az hbV (hbz _ hSw);clear hSw KC HL;go_wp2;go_ret2;exact⟨rfl,hby⟩
   ·have hpn2:((p:Int) < (n:Int))=False:=eq_false (by omega)
    go_wp2_with fail;refine wp_region_held_drew (S:=fun w'=>Below wr.heap.size wr w') rfl (ak b0_) (fun hSw=>?_);refine w_v 0 hSw ?_ (k:=kz10);go_simp;refine w_v 1 hSw ?_ (k:=kz10);go_simp;refine w_v 2 hSw ?_ (k:=kz10);go_simp;refine w_v 3 hSw ?_ (k:=kz10);go_simp;refine w_v 4 hSw ?_ (k:=kz10);go_simp;refine wpT0 (i:=5) hSw ?_;go_simp;refine wpT0 (i:=6) hSw ?_;go_simp;refine wpT0 (i:=7) hSw ?_;go_simp;refine wpT0 (i:=8) hSw ?_;go_simp;refine wpT0 (i:=9) hSw ?_;go_simp;refine wpT0 (i:=10) hSw ?_;go_simp;refine wpT0 (i:=11) hSw ?_;go_simp;refine wpT0 (i:=12) hSw ?_;go_simp;refine w_v 13 hSw ?_ (k:=kz10);go_simp;refine w_v 14 hSw ?_ (k:=kz10);go_simp;refine w_v 15 hSw ?_ (k:=kz10);go_simp;refine wpAnyH_done (by kernel_rfl) ?_ _;have hby:=az hbV (hbz _ hSw);go_wp2;go_ret2;exact⟨rfl,hby⟩
theorem wy2 {l:List It} (h:uq l) (x:It) (hk:pos l x < l.length):It.same l[pos l x] x=l.any (fun y=>It.same y x):=by
 cases hs:It.same l[pos l x] x with
 |true=>exact(aO_.2 ⟨_,v_ _,hs⟩).symm
 |false=>
  symm
  rw[S_];intro y hy hsy;obtain⟨i,hi,rfl⟩:=aR_ hy;have h1:=cz2 h x hi;have h2:=cz2 h x hk;rw[It.same_iff]at hsy;have h3:It.less l[i] x=false:=by rw[It.kj1];omega
  rw[h3]at h1;have h4:pos l x≤i:=by simpa using h1.symm
  rcases T_ (pos l x) i with h5|h5
  ·have h6:=ai_.1 h _ _ hk hi h5
   have h7:It.less l[pos l x] x=false:=by rw[h2];simp
   rw[It.vw]at h6;rw[It.kj1]at h7;omega
  ·have h6:i=pos l x:=by omega
   subst h6;have:It.same l[pos l x] x=true:=by rw[It.same_iff];exact hsy
   rw[hs]at this
   cases this
theorem aj2 {l:List It} (h:uq l) (x:It) (hk:¬pos l x < l.length):l.any (fun y=>It.same y x)=false:=by
 rw[S_];intro y hy hsy;obtain⟨i,hi,rfl⟩:=aR_ hy;have h1:=cz2 h x hi;rw[It.same_iff]at hsy;have h3:It.less l[i] x=false:=by rw[It.kj1];omega
 rw[h3]at h1;have h4:pos l x≤i:=by simpa using h1.symm
 omega
theorem tj2 (A:Option Addr) (n c:Nat) (l:List It) (x:It) (w:World) (hn:n≤1000000) (hR:uq l) (hr:Row w.heap.size w A n 5 (itc l)):
  Calls Tryz.prog 243 #[.slice A n c,x.val] w fun e w'=>e=.returned (.tuple #[.int .i64 (pos l x:Int),.bool (l.any fun y=>y.same x)])∧Below w.heap.size w w':=by
 have hnn:=hr.uz;have hpl:=sj2 l x;have hbV:=b_ w (.cells #[.int .i64 x.s,.int .i64 x.k,.int .u64 (x.t:Int),.int .u64 (x.v:Int),.int .i64 x.x] 36);have hbx:=BoxO.new w #[.int .i64 x.s,.int .i64 x.k,.int .u64 (x.t:Int),.int .u64 (x.v:Int),.int .i64 x.x] 36;have hbs:=qx2 A n c l x (w.alloc (.cells #[.int .i64 x.s,.int .i64 x.k,.int .u64 (x.t:Int),.int .u64 (x.v:Int),.int .i64 x.x] 36)) hn hR ((hr.below hbV).up hbV.size);unfold It.val at hbs ⊢;have hon:=fun h=>wy2 hR x h;have hoff:=aj2 hR x;generalize (l.any fun y=>y.same x)=b at *;generalize hrp:pos l x=r at *;have HON:=H_ hon;have HOFF:=H_ hoff;have HRP:=H_ hrp;clear hon hoff hrp;have HBS:=H_ hbs;clear hbs;go_enter Tryz.func243,Tryz.ntmps243;go_wp2_with fail;refine HBS.out.mono ?_;rintro e W ⟨rfl,hbl⟩;generalize w.alloc (.cells #[.int .i64 x.s,.int .i64 x.k,.int .u64 (x.t:Int),.int .u64 (x.v:Int),.int .i64 x.x] 36)=V at *;obtain⟨g,hg⟩:=n_ w.heap.size;rw[←hg]at hbx ⊢;clear hg HBS
 by_cases hrn:r < n
 ·have hrn2:(r:Int) < (n:Int):=by omega
  obtain⟨a,hl,rfl,hbk,hd⟩:=((hr.below hbV).up hbV.size|>.below hbl).it (k:=r) (by omega);have hsm:=HON.out (by omega);generalize l[r]=y at *;have hcm:=fun W=>zz1 y x W;unfold It.val at hcm;rw[hsm]at hcm;have hkc:∀w',Below W.heap.size W w'→(w'.cell? (a.add (r *5))=some (.int .i64 y.s)∧w'.cell? ⟨(a.add (r *5)).block,(a.add (r *5)).off+1,none⟩=some (.int .i64 y.k)∧w'.cell? ⟨(a.add (r *5)).block,(a.add (r *5)).off+2,none⟩=some (.int .u64 (y.t:Int))∧w'.cell? ⟨(a.add (r *5)).block,(a.add (r *5)).off+3,none⟩=some (.int .u64 (y.v:Int))∧w'.cell? ⟨(a.add (r *5)).block,(a.add (r *5)).off+4,none⟩=some (.int .i64 y.x))∧w'.cell? ⟨g,0,none⟩=some (.int .i64 x.s)∧w'.cell? ⟨g,1,none⟩=some (.int .i64 x.k)∧w'.cell? ⟨g,2,none⟩=some (.int .u64 (x.t:Int))∧w'.cell? ⟨g,3,none⟩=some (.int .u64 (x.v:Int))∧w'.cell? ⟨g,4,none⟩=some (.int .i64 x.x):=fun w' hb=>by
   have h1:=hd.below (B:=W.heap.size) (w':=w') (L_ hbk hbl.size) hb;have h2:=(hbx.below hbl).below hb;exact⟨⟨h1.c0,h1.c1,h1.c2,h1.c3,h1.c4⟩,h2.cell 0,h2.cell 1,h2.cell 2,h2.cell 3,h2.cell 4⟩
  have KC:=H_ hkc;have HL:=H_ hcm;clear hkc hcm hd hsm;go_wp2_with fail;refine wp_region_held_drew (S:=fun w'=>Below W.heap.size W w') rfl (ak b0_) (fun hSw=>?_);refine w_v 0 hSw ?_ (k:=kz9);go_simp;refine w_v 1 hSw ?_ (k:=kz9);go_simp;refine w_v 2 hSw ?_ (k:=kz9);go_simp;refine w_v 3 hSw ?_ (k:=kz9);go_simp;refine w_v 4 hSw ?_ (k:=kz9);go_simp;refine w_v 5 hSw ?_ (k:=kz9);go_simp;refine w_v 6 hSw ?_ (k:=kz9);go_simp;refine w_v 7 hSw ?_ (k:=kz9);go_simp;refine w_v 8 hSw ?_ (k:=kz9);go_simp;refine w_v 9 hSw ?_ (k:=kz9);go_simp;refine w_v 10 hSw ?_ (k:=kz9);go_simp;refine w_r 11 fun K hK=>?_;go_simp
  with_reducible refine(HL.out _).mono ?_
  rintro e w1 ⟨rfl,hb1⟩;go_simp;refine hK.out _ _ (hSw.trans (hb1.mono hSw.size)) ?_;clear hSw hK K;intro hSw;go_simp;refine w_v 12 hSw ?_ (k:=kz9);go_simp;refine w_v 13 hSw ?_ (k:=kz9);go_simp;refine w_v 14 hSw ?_ (k:=kz9);go_simp;refine wpAnyH_done (by kernel_rfl) ?_ _;have hby:=az hbV (hbl.trans (hSw.mono hbl.size));clear hSw KC HL;go_wp2;go_ret2;exact⟨rfl,hby⟩
 ·have hbf:=HOFF.out (by omega)
  have hbf:=hbf;subst hbf;have hrn2:((r:Int) < (n:Int))=False:=eq_false (by omega);go_wp2_with fail;refine wp_region_held_drew (S:=fun w'=>Below W.heap.size W w') rfl (ak b0_) (fun hSw=>?_);refine w_v 0 hSw ?_ (k:=kz10);go_simp;refine w_v 1 hSw ?_ (k:=kz10);go_simp;refine w_v 2 hSw ?_ (k:=kz10);go_simp;refine w_v 3 hSw ?_ (k:=kz10);go_simp;refine w_v 4 hSw ?_ (k:=kz10);go_simp;refine w_v 5 hSw ?_ (k:=kz10);go_simp;refine wpT0 (i:=6) hSw ?_;go_simp;refine wpT0 (i:=7) hSw ?_;go_simp;refine wpT0 (i:=8) hSw ?_;go_simp;refine wpT0 (i:=9) hSw ?_;go_simp;refine wpT0 (i:=10) hSw ?_;go_simp;refine wpT0 (i:=11) hSw ?_;go_simp;refine w_v 12 hSw ?_ (k:=kz10);go_simp;refine w_v 13 hSw ?_ (k:=kz10);go_simp;refine w_v 14 hSw ?_ (k:=kz10);go_simp;refine wpAnyH_done (by kernel_rfl) ?_ _;have hby:=az hbV (hbl.trans (hSw.mono hbl.size));go_wp2;go_ret2;exact⟨rfl,hby⟩
end
section
open Go Go.RowKit
def It.none_:It:=⟨0,0,0,0,0⟩
def tkey (s:Int):It:=⟨s,1,0,0,0⟩
theorem by3 {l:List It} (h:uq l) (hk:∀y∈l,y.ok=true) (x y:It) (hy:(l.any fun y=>y.same (tkey x.s))=true→y∈l∧y.same (tkey x.s)=true):hidden l x=((l.any fun y=>y.same (tkey x.s)) &&y.hides x):=by
 unfold hidden;have hs:∀t∈l,t.hides x=true→t.same (tkey x.s)=true:=fun t ht hh=>by
  have h1:=hk t ht;rw[It.fv3]at h1;rw[It.fx1]at hh;rw[It.same_iff];unfold tkey;simp only;omega
 cases hb:l.any fun y=>y.same (tkey x.s) with
 |false=>
  rw[Bool.false_and,S_];intro t ht hh;exact(S_.1 hb) t ht (hs t ht hh)
 |true=>
  obtain⟨h1,h2⟩:=hy hb;rw[b8_]
  cases hh:y.hides x with
  |true=>exact aO_.2 ⟨y,h1,hh⟩
  |false=>
   rw[S_];intro t ht hth;have h3:=hs t ht hth;have:t=y:=kq1 h ht h1 (by rw[It.same_iff]at *;omega);rw[this,hh]at hth
   cases hth
theorem kx4 (A:Option Addr) (n c:Nat) (l:List It) (s:Int) (w:World) (hn:n≤1000000) (hR:uq l) (hr:Row w.heap.size w A n 5 (itc l)):
  Calls Tryz.prog 301 #[.slice A n c,.int .i64 s] w fun e w'=>∃y:It,e=.returned (.tuple #[y.val,.bool (l.any fun y=>y.same (tkey s))])∧((l.any fun y=>y.same (tkey s))=true→y∈l∧y.same (tkey s)=true)∧Below w.heap.size w w':=by
 have hnn:=hr.uz;have hbV:=b_ w (.cells #[.int .i64 0,.int .i64 0,.int .u64 0,.int .u64 0,.int .i64 0] 36);have hbx:=BoxO.new w #[.int .i64 0,.int .i64 0,.int .u64 0,.int .u64 0,.int .i64 0] 36;have hpl:=tj2 A n c l (tkey s) (w.alloc (.cells #[.int .i64 0,.int .i64 0,.int .u64 0,.int .u64 0,.int .i64 0] 36)) hn hR ((hr.below hbV).up hbV.size);have hon:=fun h=>wy2 hR (tkey s) h;have hoff:=aj2 hR (tkey s);generalize (l.any fun y=>y.same (tkey s))=b at *;generalize pos l (tkey s)=r at *;unfold It.val tkey at hpl;unfold It.val;have HPL:=H_ hpl;have HON:=H_ hon;have HOFF:=H_ hoff;clear hpl hon hoff;go_enter Tryz.func301,Tryz.ntmps301;go_wp2_with fail;refine HPL.out.mono ?_;rintro e W ⟨rfl,hbl⟩;generalize w.alloc (.cells #[.int .i64 0,.int .i64 0,.int .u64 0,.int .u64 0,.int .i64 0] 36)=V at *;obtain⟨g,hg⟩:=n_ w.heap.size;have hgb:w.heap.size≤g:=by omega
 rw[←hg]at hbx ⊢;clear hg HPL;have hbW:=hbx.below hbl;have b0:=hbW.c0;have b1:=hbW.c1;have b2:=hbW.c2;have b3:=hbW.c3;have b4:=hbW.c4;have z0:=hbW.free 0;have z1:=hbW.free 1;have z2:=hbW.free 2;have z3:=hbW.free 3;have z4:=hbW.free 4;have hbz:=az hbV hbl
 cases b with
 |false=>
  go_wp2;refine bodyPost_ret (v:=.tuple #[.agg #[.int .i64 0,.int .i64 0,.int .u64 0,.int .u64 0,.int .i64 0],.bool false]) (by simp[results,go_sem, *]) rfl ⟨It.none_,rfl,(fun h=>by cases h),?_⟩;exact((((hbz.setCell (p:=⟨g,0,none⟩) hgb _).setCell (p:=⟨g,1,none⟩) hgb _).setCell (p:=⟨g,2,none⟩) hgb _).setCell (p:=⟨g,3,none⟩) hgb _).setCell (p:=⟨g,4,none⟩) hgb _
 |true=>
  have hrn:r < n:=by
   rcases T_ r l.length with h|h
   ·omega
   ·have:=HOFF.out (by omega)
    cases this
  obtain⟨a,hl,rfl,hbk,hd⟩:=((hr.below hbV).up hbV.size|>.below hbl).it (k:=r) hrn;obtain⟨c0,c1,c2,c3,c4⟩:=hd;have hsm:=HON.out hl;have hmem:=v_ hl;generalize l[r]=y at *;have HS:=H_ (d_ hmem hsm);have hrn2:(r:Int) < (n:Int):=by omega
  clear hmem hsm HON HOFF;go_wp2;refine bodyPost_ret (v:=.tuple #[.agg #[.int .i64 y.s,.int .i64 y.k,.int .u64 (y.t:Int),.int .u64 (y.v:Int),.int .i64 y.x],.bool true]) (by simp[results,go_sem, *]) rfl ⟨y,rfl,HS.out,?_⟩;exact((((hbz.setCell (p:=⟨g,0,none⟩) hgb _).setCell (p:=⟨g,1,none⟩) hgb _).setCell (p:=⟨g,2,none⟩) hgb _).setCell (p:=⟨g,3,none⟩) hgb _).setCell (p:=⟨g,4,none⟩) hgb _
theorem ey2 (A:Option Addr) (n c:Nat) (l:List It) (x:It) (w:World) (hn:n≤1000000) (hR:uq l) (hk:∀y∈l,y.ok=true) (hr:Row w.heap.size w A n 5 (itc l)):
  Calls Tryz.prog 242 #[.slice A n c,x.val] w fun e w'=>e=.returned (.bool (hidden l x))∧Below w.heap.size w w':=by
 have hbV:=b_ w (.cells #[.int .i64 x.s,.int .i64 x.k,.int .u64 (x.t:Int),.int .u64 (x.v:Int),.int .i64 x.x] 36);have hbx:=BoxO.new w #[.int .i64 x.s,.int .i64 x.k,.int .u64 (x.t:Int),.int .u64 (x.v:Int),.int .i64 x.x] 36;have htb:=kx4 A n c l x.s (w.alloc (.cells #[.int .i64 x.s,.int .i64 x.k,.int .u64 (x.t:Int),.int .u64 (x.v:Int),.int .i64 x.x] 36)) hn hR ((hr.below hbV).up hbV.size);have hht:=fun y=>by3 hR hk x y;obtain⟨r,hrp⟩:=n_ (hidden l x);rw[←hrp];simp only[←hrp]at hht;unfold It.val at htb ⊢;generalize (l.any fun y=>y.same (tkey x.s))=b at *;have HTB:=H_ htb;have HHT:=H_ hht;clear htb hht hrp;go_enter Tryz.func242,Tryz.ntmps242;go_wp2_with fail;refine HTB.out.mono ?_;rintro e W ⟨y,rfl,hy,hbl⟩;have hh:=HHT.out y hy;generalize w.alloc (.cells #[.int .i64 x.s,.int .i64 x.k,.int .u64 (x.t:Int),.int .u64 (x.v:Int),.int .i64 x.x] 36)=V at *;obtain⟨g,hg⟩:=n_ w.heap.size;rw[←hg]at hbx ⊢;clear hg HTB HHT hy;have hbz:=az hbV hbl;have hbW:=hbx.below hbl;have hbo:=b_ W (.cells #[.int .i64 y.s,.int .i64 y.k,.int .u64 (y.t:Int),.int .u64 (y.v:Int),.int .i64 y.x] 36);have b0:=(hbW.below hbo).c0;have b1:=(hbW.below hbo).c1;have b2:=(hbW.below hbo).c2;have b3:=(hbW.below hbo).c3;have b4:=(hbW.below hbo).c4;have HH:=H_ hh;have hid2:=fun W=>iq2 y x W;unfold It.val at hid2;generalize y.hides x=q at *;have HD:=H_ hid2;have hby:=az hbz hbo;clear hh hid2
 cases b with
 |false=>
  have HR:=H_ (show r=false from HH.out.trans (Bool.false_and _));clear HH;go_wp2;go_ret;exact⟨gy HR.out.symm,hby⟩
 |true=>
  have HR:=H_ (show r=q from HH.out.trans (b8_ _));clear HH;go_wp2_with fail;refine(HD.out _).mono ?_;rintro e W2 ⟨rfl,hb2⟩;have hbx:=az hby hb2;go_wp2;go_ret;exact⟨gy HR.out.symm,hbx⟩
end
section
open Go Go.RowKit Go.Lib
def It.ns (x:It):List Nat:=[x.t,x.v,sgn x.x]
theorem It.ej5 (x:It):x.one=[UInt8.ofNat x.s.toNat,UInt8.ofNat x.k.toNat] ++x.ns.flatMap Pn.put:=by simp[It.one,It.ns]
theorem ij2 {w:World} {base size n:Nat} {e:TypeId} {v:Value} {xs:List Value} (h:w.ownsRow base e size v n xs) {g:Nat} (hg:w.heap.size≤g):some g≠v.ownBlock:=by
 rcases h.2 with ⟨rfl,_⟩|⟨g',cap,cur,rfl,_,hh,_⟩
 ·intro e;cases e
 ·have:g' < w.heap.size:=(w_.1 hh).1
  intro e;have e:g=g':=ap_ e;omega
theorem BoxO.tv1 {w w':World} {e:TypeId} {g:Nat} {xs:List Value} {r:Option Nat} (h:BoxO w e g xs) (hg:w.grownBy w' r) (hne:some g≠r):BoxO w' e g xs:=(hg.block g h.lt hne).trans h
theorem mx4 {l:List It} {k:Nat} (h:k < l.length):(l.take (k+1)).flatMap It.one=(l.take k).flatMap It.one++l[k].one:=by
 rw[o_ h,a4_];simp
theorem kz18 {P S a oi v} (h:Hv P S a oi v:=by intro w hSw;(obtain⟨d0,d1,d2⟩:=KZ.out w hSw);go_simp;try (with_reducible rfl)):Hv P S a oi v:=h
theorem sx1 (A:Option Addr) (N c:Nat) (b:List UInt8) (L:Option Addr) (m d:Nat) (l:List It) (w:World) (hN:N≤1000000) (hm:m≤2000) (hr:Row w.heap.size w A N 1 (bts b)) (hq:Row w.heap.size w L m 5 (itc l)) (hk:∀x∈l,x.ok=true∧x.fit):
  Calls Tryz.prog 258 #[.slice A N c,.slice L m d] w fun e w'=>∃A' M c',e=.returned (.tuple #[.slice A' M c',.int .i64 0])∧
   w'.ownsRow w.heap.size 5 1 (.slice A' M c') M (bts (b++It.bytes l))∧M≤c'∧c'≤maxLen∧Below w.heap.size w w':=by
 obtain⟨i0,hi0,hz0,hz1,hz2⟩:=info_parts eq1;have hln:=hr.xk;have hmn:=hq.uz;have hcv:∀w,(convert 3 22 (.int .i64 (m:Int))).run Tryz.prog w=.ok (.int .u64 (m:Int)) w:=by
  intro w;have:(m:Int) % 18446744073709551616=(m:Int):=by omega
  simp[go_sem,convert,IntKind.wrap_u64,this]
 have hal:=px1 L m d l w (by omega) hq;rw[show l.all It.ok=true from al_.2 fun x hx=>(hk x hx).1]at hal;have hm2:((2000:Int) < (m:Int))=False:=eq_false (by omega);have HAL:=H_ hal;have HK:=H_ hk;clear hal hk;go_enter Tryz.func258,Tryz.ntmps258;go_wp2_with fail;refine HAL.out.mono ?_;rintro e w0 ⟨rfl,hb0⟩;have hp:=put_any A N c b m (by omega) w0 (by omega) ((hr.below hb0).up hb0.size);have hq0:=(hq.below hb0).up hb0.size;have HP:=H_ hp;clear hp HAL;go_wp2_with fail;refine HP.out.mono ?_;rintro e w1 ⟨A1,c1,rfl,ho1,hc1,hm1,hb1⟩;obtain⟨M1,hM1⟩:=n_ (N+(Pn.put m).length);have hM1b:M1≤N+10:=by have:=(Pn.ik m).2;omega
 rw[←hM1]at ho1 hc1 ⊢;have hq1:=(hq0.below hb1).up hb1.size;have hb01:=az hb0 hb1;have HO1:=H_ ho1;have HB01:=H_ hb01;have HS0:=H_ hb0.size;clear ho1 hb01 hb1 hb0 hr hq hq0 HP hM1;go_wp2
 go_loopw [7,25] (fun o i wr=>∃(k q:Nat) (A2:Option Addr) (c2:Nat),k≤m∧o=.slice A2 q c2∧i=.int .i64 (k:Int)∧Hid (q≤32 *k∧wr.ownsRow w1.heap.size 5 1 (.slice A2 q c2) q (bts ((l.take k).flatMap It.one)))∧Below w1.heap.size w1 wr) (fun _ i _=>m - (intOf i).toNat)
 case atStart=>exact⟨0,0,none,0,t_ _,rfl,rfl,H_ ⟨by omega,E_ _ _ _ _⟩,Below.refl _ _⟩
 case round=>
  obtain⟨k,q,A2,c2,hkm,rfl,rfl,HQ,hbl⟩:=hrel
  by_cases hlt:k < m
  ·obtain⟨p,hl,rfl,hbk,d0,d1,d2,d3,d4⟩:=(hq1.below hbl).it hlt
   have hki:(k:Int) < (m:Int):=by omega
   have hwk:IntKind.i64.wrap (k:Int)=(k:Int):=F_ _ (by omega);obtain⟨hxk,hxf⟩:=HK.out _ (v_ hl);have hot:=mx4 hl;have hq32:=HQ.out.1;generalize l[k]=x at *;rw[It.fv3]at hxk;have e1:=iz3 (x:=x.s) (by omega) (by omega);have e2:=iz3 (x:=x.k) (by omega) (by omega);rw[It.ej5]at hot;generalize UInt8.ofNat x.s.toNat=u1 at *;generalize UInt8.ofNat x.k.toNat=u2 at *;have hU:=b_ wr (.cells #[.int .i64 x.s,.int .i64 x.k,.int .u64 (x.t:Int),.int .u64 (x.v:Int),.int .i64 x.x] 36);have hbx:BoxO (wr.alloc (.cells #[.int .i64 x.s,.int .i64 x.k,.int .u64 (x.t:Int),.int .u64 (x.v:Int),.int .i64 x.x] 36)) 36 wr.heap.size x.cells:=BoxO.new wr #[.int .i64 x.s,.int .i64 x.k,.int .u64 (x.t:Int),.int .u64 (x.v:Int),.int .i64 x.x] 36;obtain⟨U,hUe⟩:=n_ (wr.alloc (.cells #[.int .i64 x.s,.int .i64 x.k,.int .u64 (x.t:Int),.int .u64 (x.v:Int),.int .i64 x.x] 36));rw[←hUe]at hU hbx;have hrow:Row (U.alloc (.cells #[.int .u8 (u1.toNat:Int),.int .u8 (u2.toNat:Int)] 5)).heap.size (U.alloc (.cells #[.int .u8 (u1.toNat:Int),.int .u8 (u2.toNat:Int)] 5)) (some ⟨U.heap.size,0,none⟩) 2 1 (bts [u1,u2]):=by
    have:=Row.new U #[.int .u8 (u1.toNat:Int),.int .u8 (u2.toNat:Int)] 5 (n:=2) (size:=1) rfl;simpa [bts] using this
   have b0:=hbx.cell 0;have b1:=hbx.cell 1;simp only[It.cells,gE0,gE1]at b0 b1;have hbU:=az hbl hU;have hoU:=own_below HQ.out.2 hU;have hbV:=hbU.alloc hbU.size (.cells #[.int .u8 (u1.toNat:Int),.int .u8 (u2.toNat:Int)] 5);have hoV:=hoU.alloc (.cells #[.int .u8 (u1.toNat:Int),.int .u8 (u2.toNat:Int)] 5);have hbxV:=hbx.alloc (.cells #[.int .u8 (u1.toNat:Int),.int .u8 (u2.toNat:Int)] 5);have HROW:=H_ hrow;have HBV:=H_ hbV;have HOV:=H_ hoV;have HBXV:=H_ hbxV;have HOT:=H_ hot;have HXK:=H_ hxk;have HXF:=H_ hxf;have hUs:=hUe.symm;have hsz:wr.heap.size+1=U.heap.size:=by rw[hUe];simp
   clear hrow hbV hoV hbxV hot hxk hxf hU hbx hbU hoU hUe;go_wp2_with (at_builtin;refine iy ?_);refine gz (jq rfl (.tmp 29) (.tmp 36) _ rfl w1.heap.size 5 i0 _ 1 1 Tryz.underlying56 hi0 hz0 hz1 hz2 rfl (by omega) w1 HBV.out HBV.out.size _ q _ rfl HOV.out _ _ 2 2 (bts [u1,u2]) rfl HROW.out (xy _) (q+2) _ rfl rfl (by unfold maxLen;omega) (by omega) ?_);intro A3 c3 w3 hown3 hb3 hg3 hc3 hm3;have hbx3:=HBXV.out.tv1 hg3 (ij2 HQ.out.2 l_);have hkz:∀w',Below w3.heap.size w3 w'→w'.cell? ⟨wr.heap.size,2,none⟩=some (.int .u64 (x.t:Int))∧w'.cell? ⟨wr.heap.size,3,none⟩=some (.int .u64 (x.v:Int))∧w'.cell? ⟨wr.heap.size,4,none⟩=some (.int .i64 x.x):=fun w' h=>by
    have e:=hbx3.below h;exact⟨e.cell 2,e.cell 3,e.cell 4⟩
   have KZ:=H_ hkz;have d0:=hbx3.cell 2;have d1:=hbx3.cell 3;have d2:=hbx3.cell 4;simp only[It.cells,gE0,gE1]at d0 d1 d2;have hsg:=fun W=>qw4 x.x HXF.out.1 HXF.out.2 W;have HSG:=H_ hsg;have HO3:=H_ hown3;have HB3:=H_ hb3;have hns:x.ns=[x.t,x.v,sgn x.x]:=rfl;have hn64:∀n∈x.ns,n < 18446744073709551616:=by
    have h1:=HXK.out;have h2:=wk4 HXF.out.1 HXF.out.2;rw[hns];intro n hn;simp only[g_,ar_,or_false]at hn
    rcases hn with rfl|rfl|rfl<;>omega
   obtain⟨sg,hsgn⟩:=n_ (sgn x.x);rw[←hsgn]at hns;have HNS:=H_ hns;have HN64:=H_ hn64;have HSGN:=H_ hsgn;clear hsg hown3 hb3 hbx3 hns hn64 hsgn hg3 HBV HOV HBXV HROW e1 e2 b0 b1 hUs;go_wp2_with fail;clear d0 d1 d2 hkz;refine wp_region_held_drew (S:=fun w'=>Below w3.heap.size w3 w') rfl (ak b0_) (fun hSw=>?_);refine w_v 0 hSw ?_ (k:=kz18);go_simp;refine w_v 1 hSw ?_ (k:=kz18);go_simp;refine w_v 2 hSw ?_ (k:=kz18);go_simp;refine w_v 3 hSw ?_ (k:=kz18);go_simp;refine w_v 4 hSw ?_ (k:=kz18);go_simp;refine w_v 5 hSw ?_ (k:=kz18);go_simp;refine w_v 9 hSw ?_ (k:=kz18);go_simp;refine w_r 6 fun K hK=>?_;go_simp
   with_reducible refine(HSG.out _).mono ?_
   rintro e w7 ⟨rfl,rfl⟩;go_simp;refine hK.out _ _ hSw ?_;clear hSw hK K;intro hSw;go_simp;refine w_r 7 fun K hK=>?_
   skip
   go_simp;refine hK.out _ _ (hSw.alloc hSw.size _) ?_;clear hSw hK K;intro hSw;go_simp;refine w_v 8 hSw ?_ (k:=kz18);go_simp;refine wpAnyH_done (by kernel_rfl) ?_ _;have hsv:=hSw;clear hSw KZ HSG d0 d1 d2 d3 d4;have hog:some w3.heap.size≠(Value.slice A3 (q+2) c3).ownBlock:=ij2 HO3.out l_;have hoW:=own_below HO3.out hsv;have hbxW:BoxO (w3.alloc (.cells #[.int .u64 (x.t:Int),.int .u64 (x.v:Int),.int .u64 (sgn x.x:Int)] 22)).drew 22 w3.heap.size (u64v x.ns):=by
    have:=(BoxO.new w3 #[.int .u64 (x.t:Int),.int .u64 (x.v:Int),.int .u64 (sgn x.x:Int)] 22).drew;rw[HNS.out,HSGN.out];exact this
   have hb13:=HB3.out.trans (hsv.mono HB3.out.size);obtain⟨g,hg⟩:=n_ w3.heap.size;rw[←hg]at hog hbxW;obtain⟨W,hW⟩:=n_ ((w3.alloc (.cells #[.int .u64 (x.t:Int),.int .u64 (x.v:Int),.int .u64 (sgn x.x:Int)] 22)).drew);rw[←hW]at hoW hbxW hb13 hsv ⊢;have H0:=H_ (d_ hoW (d_ hbxW hb13));have HOG:=H_ hog;have hgs:=hg.symm;clear hoW hbxW hb13 hog hW HO3 HB3 hsv hg;rw[hgs];go_wp2_with fail
   go_loopw [7,47] (fun o i wq=>∃(j q2:Nat) (A4:Option Addr) (c4:Nat),j≤3∧o=.slice A4 q2 c4∧i=.int .i64 (j:Int)∧Hid (q2≤q+2+10 *j∧wq.ownsRow w1.heap.size 5 1 (.slice A4 q2 c4) q2 (bts ((l.take k).flatMap It.one++([u1,u2] ++(x.ns.take j).flatMap Pn.put)))∧some g≠(Value.slice A4 q2 c4).ownBlock∧BoxO wq 22 g (u64v x.ns))∧Below w1.heap.size w1 wq) (fun _ i _=>3 - (intOf i).toNat)
   case atStart=>exact⟨0,q+2,A3,c3,by omega,rfl,rfl,H_ ⟨by omega,by have:=H0.out.1;simpa [bts] using this,HOG.out,H0.out.2.1⟩,H0.out.2.2⟩
   case round=>
    obtain⟨j,q2,A4,c4,hj3,rfl,rfl,HJ,hbq⟩:=hrel;have hxl:x.ns.length=3:=rfl
    by_cases hjl:j < 3
    ·have hji:(j:Int) < 3:=by omega
     have hwj:IntKind.i64.wrap (j:Int)=(j:Int):=F_ _ (by omega);have hcg:=HJ.out.2.2.2.cell j;rw[gk3,j_ (by omega)]at hcg;have hn64:=HN64.out _ (v_ (show j < x.ns.length by omega));have htk:x.ns.take (j+1)=x.ns.take j++[x.ns[j]]:=o_ (by omega);generalize x.ns[j]=n at *;simp only[aK_]at hcg;have hpn:=fun W=>put_any none 0 0 [] n hn64 W (by omega) Row.nil_;have hpl:=Pn.ik n;simp only[ag_,y_]at hpn;have HPN:=H_ hpn;have HTK:=H_ htk;clear hpn htk;go_wp2_with fail;refine(HPN.out _).mono ?_;rintro e w7 ⟨A5,c5,rfl,ho5,h51,h52,hb5⟩;have hr5:=Row.own ho5;have ho4:=own_below HJ.out.2.1 hb5;have hbx5:=HJ.out.2.2.2.below hb5;have hbq5:=hbq.trans (hb5.mono hbq.size);have hg7:=hbx5.lt;generalize hpln:(Pn.put n).length=pl at *;have hq2:=HJ.out.1;have HR5:=H_ hr5;have HO4:=H_ ho4;have HBX5:=H_ hbx5;have HBQ5:=H_ hbq5;clear ho5 hr5 ho4 hbx5 hbq5 HPN hb5;go_wp2_with (at_builtin;refine iy ?_);refine gz (aw1 rfl (.tmp 51) (.tmp 53) _ rfl w1.heap.size 5 i0 _ 1 1 Tryz.underlying56 hi0 hz0 hz1 hz2 rfl (by omega) w1 HBQ5.out HBQ5.out.size _ q2 _ rfl HO4.out _ _ pl c5 (by omega) (bts (Pn.put n)) rfl HR5.out (xy _) (q2+pl) (bts ((l.take k).flatMap It.one++([u1,u2] ++(x.ns.take (j+1)).flatMap Pn.put))) rfl (by rw[HTK.out];simp[bts]) (by unfold maxLen;omega) (by omega) ?_);intro A6 c6 w8 z1 z2 z3 z4 z5 z6;have hng:some g≠(Value.slice A6 (q2+pl) c6).ownBlock:=by
      rcases z6 with z6|z6
      ·rw[z6];exact HJ.out.2.2.1
      ·rw[z6]
       intro e;have e:=ap_ e;omega
     have HF:=H_ (d_ (show q2+pl≤q+2+10 *(j+1) by omega) (d_ z1 (d_ hng (HBX5.out.tv1 z3 HJ.out.2.2.1))));clear z1 z3 z6 hng HR5 HO4 HBX5 HBQ5 hcg;go_wp2;go_roundw
     case rel=>exact⟨j+1,q2+pl,A6,c6,by omega,rfl,by go_num,HF,z2⟩
     case measure=>simp[intOf];omega
    ·have hji:((j:Int) < 3)=False:=eq_false (by omega)
     have hj:j=3:=by omega
     have htk:x.ns.take j=x.ns:=i_ (by omega);have ho:=HJ.out.2.1;rw[htk,←HOT.out]at ho;have HF:=H_ (d_ (show q2≤32 *(k+1) by have:=HJ.out.1;omega) ho);clear ho htk;go_wp2;go_roundw
     case rel=>exact⟨k+1,q2,A4,c4,by omega,rfl,by go_num,HF,hbq⟩
     case measure=>simp[intOf];omega
  ·have hki:((k:Int) < (m:Int))=False:=eq_false (by omega)
   have hall:l.take k=l:=i_ (by omega);have hq:=HQ.out;rw[hall]at hq;have hro:=Row.own hq.2;have hoo:=own_base (own_below HO1.out hbl) HS0.out;have hbz:=HB01.out.trans (hbl.mono HB01.out.size);have hqb:=hq.1;have HRO:=H_ hro;have HOO:=H_ hoo;have HBZ:=H_ hbz;clear hq hro hoo hbz hall;go_wp2_with (at_builtin;refine iy ?_);refine gz (jq rfl (.tmp 57) (.tmp 58) _ rfl w.heap.size 5 i0 _ 1 1 Tryz.underlying56 hi0 hz0 hz1 hz2 rfl (by omega) w HBZ.out HBZ.out.size _ M1 _ rfl HOO.out _ _ q c2 _ rfl HRO.out (xy _) (M1+q) (bts (b++It.bytes l)) rfl (by simp[It.bytes,bts,hmn]) (by unfold maxLen;omega) (by omega) ?_);intro A6 c6 w8 z1 z2 z3 z4 z5;have HF:=H_ z1;clear z1 z3 HRO HOO HBZ HQ;go_wp2;go_ret2;exact⟨A6,_,c6,rfl,HF.out,z4,z5,z2⟩
end
section
open Go Go.RowKit Go.ChangeShapes Go.WideShapes Go.Deep Go.Joins
section
variable {H:Type} {enc:TypeId×Value→H} {P:Program} {w:World} {base:Nat} {spare:Nat→Bool} {held:Bool}
end
end
section
open Go Go.RowKit
end
section
open Go Go.RowKit Go.Lib
theorem pv3 (g j:Nat) (x:Int) (w:World) (hc:w.cell? ⟨g,j,none⟩=some (.int .i64 x)):
  Calls Tryz.prog 106 #[.pointer (some ⟨g,j,none⟩)] w fun e w'=>e=.returned (.int .i64 x)∧w'=w:=by
 have hld:=run_call_load (P:=Tryz.prog) Tryz.func195 (by kernel_rfl) (by kernel_rfl) (by kernel_rfl) .i64 (by kernel_rfl) hc;go_enter Tryz.func106,Tryz.ntmps106;go_wp2;go_ret;exact⟨rfl,rfl⟩
theorem zy1 (g j:Nat) (x y:Int) (w:World) (hc:w.cell? ⟨g,j,none⟩=some (.int .i64 x)) (hz:w.frozen? ⟨g,j,none⟩=false):
  Calls Tryz.prog 159 #[.pointer (some ⟨g,j,none⟩),.int .i64 y] w fun e w'=>e=.returned (.tuple #[])∧w'=w.setCell ⟨g,j,none⟩ (.int .i64 y):=by
 have hst:=run_call_store (P:=Tryz.prog) Tryz.func234 (by kernel_rfl) (by kernel_rfl) (by kernel_rfl) (by kernel_rfl) (k:=.i64) (y:=y) hc hz;go_enter Tryz.func159,Tryz.ntmps159;go_wp2;exact bodyPost_end (v:=.tuple #[]) (by simp[results,go_sem]) rfl ⟨rfl,rfl⟩
theorem vw3 (g j:Nat) (x:Int) (w:World) (h0:0≤x) (h1:x≤1000000000) (hc:w.cell? ⟨g,j,none⟩=some (.int .i64 x)) (hz:w.frozen? ⟨g,j,none⟩=false):
  Calls Tryz.prog 147 #[.pointer (some ⟨g,j,none⟩),.int .i64 1] w fun e w'=>e=.returned (.int .i64 (x+1))∧w'=w.setCell ⟨g,j,none⟩ (.int .i64 (x+1)):=by
 have hwr:IntKind.i64.wrap (x+1)=x+1:=F_ _ (by omega);have hadd:=run_call_add (P:=Tryz.prog) Tryz.func223 (by kernel_rfl) (by kernel_rfl) (by kernel_rfl) .i64 (by kernel_rfl) (y:=1) (s:=x+1) hc hz (by simp[go_sem,hwr]);go_enter Tryz.func147,Tryz.ntmps147;go_wp2;go_ret;exact⟨rfl,rfl⟩
end
section
open Go Go.RowKit
end
section
open Go Go.RowKit
end
end Go.Proofs.YthjdpplgfdihoaaGreatDoor
