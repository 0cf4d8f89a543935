/- Some of the texts. No conditions. -/
import Derived.Test.YtfbkjjdfboagfaaGreatDoorBunAH
import Derived.Test.YtfbkjjdfboagfaaGreatDoorBunAJ
import Derived.Test.YtfbkjjdfboagfaaGreatDoorBunAI

set_option linter.unusedSimpArgs false
set_option linter.unusedVariables false
set_option maxRecDepth 100000
set_option maxHeartbeats 16000000
namespace Go.Proofs.YtfbkjjdfboagfaaGreatDoor
open Go.Proofs.Tryz Go Go.RowKit Go.Lib Go.Shelf
structure Dm (w:World) (X:Dw) (S:Sd):Prop where
 dk:DK w X S
 wf:S.Wf
 env:Env w
 base:∀g∈X.foot,NG<=g
theorem Dm.below {w w':World} {X:Dw} {S:Sd} (h:Dm w X S) (o:Below w w w'):Dm w' X S:=⟨h.dk.below o,h.wf,h.env.below o,h.base⟩
theorem Dm.chg {w w':World} {X:Dw} {S:Sd} {G:List Nat} (h:Dm w X S) (c:Chg G w w') (z:∀g∈G,g∉X.foot/\NG<=g):Dm w' X S:=⟨h.dk.chg c (fun g o=>(z g o).1),h.wf,h.env.chg c (fun g o=>(z g o).2),h.base⟩
def UpdM (X:Dw) (w w':World) (S':Sd):Prop:=∃X',X'.d=X.d/\Dm w' X' S'/\Chg X.foot w w'/\∀g∈X'.foot,g∈X.foot\/(w:Nat)<=g
theorem Dm.upd {w w':World} {X:Dw} {S S':Sd} (h:Dm w X S) (C:S'.Wf) (E:Upd X w w' S'):UpdM X w w' S':=by
 obtain⟨X',e,hd,o,z⟩:=E;have I:=h.env.base;exact⟨X',e,⟨hd,C,h.env.chg o h.base,fun g H=>by
  rcases z g H with h1|h1
  ·exact h.base g h1
  ·omega⟩,o,z⟩
theorem UpdM.trans {w w1 C:World} {X X1:Dw} {S2:Sd} (e:X1.d=X.d) (c:Chg X.foot w w1) (E:∀g∈X1.foot,g∈X.foot\/(w:Nat)<=g) (h2:UpdM X1 w1 C S2):UpdM X w C S2:=by
 obtain⟨X',H,h,c',o⟩:=h2;refine⟨X',H.trans e,h,c.trans c' (fun g z=>E g z),fun g z=>?_⟩
 rcases o g z with h3|h3
 ·exact E g h3
 ·exact .inr (g_ c.size h3)
theorem kk1 {S:Sd} (z:S.Wf):∀s∈S.list,Sd.named s=true:=by
 intro s o;unfold Sd.list at o;split at o
 ·cases o
 ·rw[List.mem_mergeSort]at o
  obtain⟨p,C,rfl⟩:=aP_.1 o;exact z.gnames p C
theorem ey1 {s:List UInt8} (h:Sd.named s=true):1<=s.length/\s.length<=16:=by
 simp only[Sd.named,N_,decide_eq_true_eq]at h;exact h.1
theorem pw1 {S:Sd} (o:S.Wf):S.list.length<=64:=by
 unfold Sd.list;split
 ·simp
 ·rw[List.length_mergeSort,aG_];exact o.most
theorem Row.enc {B n:Nat} {w:World} {A:Option Addr} {o:List (List UInt8)} (h:Row B w A n 1 (o.map Go.Proofs.encStr)) {k:Nat} (E:k < n):∃a,∃C:k < o.length,A=some a/\a.block < B/\w.cell? (a.add k)=some (.string (str o[k])):=by
 obtain⟨a,v,e,H,z,I⟩:=h.at1 E;have C:k < o.length:=by
  have:=h.len;simp at this;omega
 rw[b5_,j_ C]at z;injection z with z;subst z;exact⟨a,C,e,H,I⟩
theorem aq3 (X:Dw) (S:Sd) (k:ByteArray) (hk:k.size<=1000) (w:World) (h:Dm w X S):
  Calls prog 109 #[X.d,.string k] w fun e w'=>e=.returned (.int .i64 (Mn.greatest S.list k.data.toList))/\Below w w w':=by
 have hl:=fj3 X S h.wf w h.dk;have I:=kk1 h.wf;have J:=pw1 h.wf;obtain⟨L,hL⟩:=n_ S.list;rw[<-hL]at hl I J ⊢;clear hL;have a6:=H_ I;clear I;obtain⟨R,hR⟩:=n_ (Mn.greatest L k.data.toList);rw[<-hR];have HR:=H_ hR;clear hR;go_enter func109,ntmps109;go_wp2_with fail;refine hl.mono ?_;rintro e w1 ⟨A,c,rfl,H,a8⟩;have O:=Row.own H;have b2:L.length<=c:=by
  obtain⟨A',c',e,h1,_⟩:=ay H;injection e with _ e2 e3;omega
 go_wp2
 go_loopw [5,13] (fun m i wr=>∃j:Nat,j<=L.length/\i=.int .i64 j/\m=.int .i64 (Mn.greatest (L.take j) k.data.toList)/\Below w w wr/\Below w1 w1 wr) (fun _ i _=>L.length - (intOf i).toNat)
 case atStart=>exact⟨0,A_ _,rfl,rfl,a8,Below.refl _ _⟩
 case round=>
  obtain⟨j,hj,rfl,rfl,E,C⟩:=hrel
  by_cases a9:j < L.length
  ·have o:=(O.below C)
   obtain⟨a,Q,rfl,_,U⟩:=o.enc a9;have a':=a6.out _ (w_ Q);have b6:=ey1 a';have HT:=H_ (Mn.yq2 Q k.data.toList);have z:=pv1 (str L[j]) k (by rw[jy];omega) hk wr (h.env.below E);rw[kz]at z;generalize L[j]=s at *;go_wp2_with fail;refine z.mono ?_;rintro e w2 ⟨rfl,a0⟩;have a1:=E.trans (a0.mono E.size);have a2:=C.trans (a0.mono C.size)
   cases a4:Mn.number s k.data.toList with
   |none=>
    rw[a4]at HT;unfold numV;generalize hG:Mn.greatest (L.take j) k.data.toList=G at *;clear z U o;go_wp2;go_roundw
    case rel=>exact⟨j+1,o_,by go_num,by rw[HT.out];simp,a1,a2⟩
    case measure=>simp[intOf];omega
   |some v=>
    rw[a4]at HT;unfold numV;generalize hG:Mn.greatest (L.take j) k.data.toList=G at *;clear z U o;go_wp2;go_roundw
    case rel=>exact⟨j+1,o_,by go_num,by rw[HT.out];simp,a1,a2⟩
    case measure=>simp[intOf];omega
  ·have e1:L.take j=L:=i_ o_
   rw[e1,<-show R=_ from HR.out];go_wp2;go_ret;exact⟨rfl,E⟩
theorem write_any (X:Dw) (S:Sd) (s:ByteArray) (hs:s.size<=maxLen) (A:Option Addr) (m c:Nat) (b:List UInt8) (hm:m<=1099511627776) (hl:S.load<=1099511627776) (w:World) (h:Dm w X S) (hr:Row w w A m 1 (bts b)) (hA:∀a,A=some a->a.block∉X.foot):
  Calls prog 173 #[X.d,.string s,.slice A m c] w fun e w'=>e=.returned (.int .i64 ((S.write s.data.toList b).2:Int))/\UpdM X w w' (S.write s.data.toList b).1:=by
 have a5:=qz2 X S s hs h.wf hl w h.dk;have a6:=h.wf.create s.data.toList;have C:=fun w1 (hu:Upd X w w1 (S.create s.data.toList).1)=>h.upd a6 hu;have z:S.write s.data.toList b=if (S.create s.data.toList).2≠0 then S.create s.data.toList else if ((S.create s.data.toList).1.append s.data.toList b).2≠0 then (S.create s.data.toList).1.append s.data.toList b
  else ((S.create s.data.toList).1.append s.data.toList b).1.sync s.data.toList:=rfl
 generalize S.create s.data.toList=R1 at *;obtain⟨S1,e1⟩:=R1;simp only at *
 by_cases h0:e1=0
 ·subst h0
  rw[if_neg s_]at z;have a2:=a6.append s.data.toList b;have a4:=fun X1 w1 (h1:DK w1 X1 S1) O Q=>xk1 X1 S1 s hs A m c b hm a6 w1 h1 O Q;generalize S1.append s.data.toList b=R2 at *;obtain⟨S2,e2⟩:=R2;simp only at *
  by_cases h1:e2=0
  ·subst h1
   rw[if_neg s_]at z;have b7:=a2.sync s.data.toList;have a8:=fun X1 w1 (h1:DK w1 X1 S2)=>sync_any X1 S2 s hs a2 w1 h1;generalize S2.sync s.data.toList=R3 at *;obtain⟨S3,e3⟩:=R3;simp only at *;rw[z];clear z;have HR:=H_ hr;have HA:=H_ hA;clear hr hA;go_enter func173,ntmps173;go_wp2_with fail;refine a5.mono ?_;rintro e w1 ⟨rfl,H⟩;obtain⟨X1,I,U,a0,a7⟩:=C w1 H;have O:=Row.zk2 HR.out a0 l_ HA;have Q:∀a,A=some a->a.block≠X1.d:=fun a ha=>by rw[I];exact fun e=>HA.out a ha (by rw[e];exact aj.2 (.inl rfl))
   have o:=a4 X1 w1 U.dk O Q;rw[I]at o;have H2:=H_ o;clear o Q a4 C H O;go_wp2_with fail;refine H2.mono ?_;rintro e w2 ⟨rfl,a1⟩;obtain⟨X2,a',b0,c9,d0⟩:=U.upd a2 a1;have E:=a8 X2 w2 b0.dk;rw[a',I]at E;have H3:=H_ E;clear E a8 a1;go_wp2_with fail;refine H3.mono ?_;rintro e w3 ⟨rfl,b1⟩;have J:=UpdM.trans I a0 a7 (UpdM.trans a' c9 d0 (b0.upd b7 b1));clear b1;go_wp2;go_ret;exact⟨rfl,J⟩
  ·have d1:=neq0 h1
   rw[if_pos h1]at z;rw[z];clear z;have HR:=H_ hr;have HA:=H_ hA;clear hr hA h1;go_enter func173,ntmps173;go_wp2_with fail;refine a5.mono ?_;rintro e w1 ⟨rfl,H⟩;obtain⟨X1,I,U,a0,a7⟩:=C w1 H;have O:=Row.zk2 HR.out a0 l_ HA;have Q:∀a,A=some a->a.block≠X1.d:=fun a ha=>by rw[I];exact fun e=>HA.out a ha (by rw[e];exact aj.2 (.inl rfl))
   have o:=a4 X1 w1 U.dk O Q;rw[I]at o;have H2:=H_ o;clear o Q a4 C H O;go_wp2_with fail;refine H2.mono ?_;rintro e w2 ⟨rfl,a1⟩;have J:=UpdM.trans I a0 a7 (U.upd a2 a1);clear a1;go_wp2;go_ret;exact⟨rfl,J⟩
 ·have d1:=neq0 h0
  rw[if_pos h0]at z;rw[z];clear z h0;go_enter func173,ntmps173;go_wp2_with fail;refine a5.mono ?_;rintro e w1 ⟨rfl,H⟩;have J:=C w1 H;clear H C;go_wp2;go_ret;exact⟨rfl,J⟩
structure Acc (F:List Nat) (X:Dw) (w:World) (S:Sd) (w':World) (X':Dw):Prop where
 e:X'.d=X.d
 dm:Dm w' X' S
 c:Chg (F++X.foot) w w'
 f:∀g∈X'.foot,g∈X.foot\/(w:Nat)<=g
variable {F:List Nat} {X X1:Dw} {w w1 w2:World} {S S1:Sd}
theorem Acc.start (h:Dm w X S):Acc F X w S w X:=⟨rfl,h,Chg.refl _ _,fun _ o=>.inl o⟩
theorem Acc.below (h:Acc F X w S w1 X1) (o:Below w1 w1 w2):Acc F X w S w2 X1:=⟨h.e,h.dm.below o,h.c.trans (Chg.of_below o []) (fun g z=>by cases z),h.f⟩
theorem Acc.step (h:Acc F X w S w1 X1) (z:UpdM X1 w1 w2 S1):∃X2,Acc F X w S1 w2 X2:=by
 obtain⟨X2,e,hd,C,E⟩:=z;refine⟨X2,e.trans h.e,hd,h.c.trans C (fun g o=>?_),fun g o=>?_⟩
 ·rcases h.f g o with h1|h1
  ·exact .inl (k_ _ h1)
  ·exact .inr h1
 ·rcases E g o with h1|h1
  ·exact h.f g h1
  ·exact .inr (g_ h.c.size h1)
theorem Acc.other (h:Acc F X w S w1 X1) {G:List Nat} (c:Chg G w1 w2) (z:∀g∈G,g∈F/\g < (w:Nat)/\g∉X.foot/\NG<=g):Acc F X w S w2 X1:=by
 refine⟨h.e,h.dm.chg c (fun g o=>⟨fun C=>?_,(z g o).2.2.2⟩),h.c.trans c (fun g o=>.inl (x_ _ (z g o).1)),h.f⟩;obtain⟨_,h2,h3,_⟩:=z g o
 rcases h.f g C with h4|h4
 ·exact h3 h4
 ·omega
theorem Acc.updM (h:Acc [] X w S w1 X1):UpdM X w w1 S:=⟨X1,h.e,h.dm,by simpa using h.c,h.f⟩
theorem Acc.read (h:Acc F X w S w1 X1) (s:ByteArray) (o:s.size<=maxLen):
  Calls prog 79 #[X.d,.string s] w1 fun e w'=>∃A c,e=.returned (.tuple #[.slice A (S.read s.data.toList).1.length c,.int .i64 ((S.read s.data.toList).2:Int)])/\
   w'.ownsRow w1 5 1 (.slice A (S.read s.data.toList).1.length c) (S.read s.data.toList).1.length (bts (S.read s.data.toList).1)/\Below w1 w1 w':=by
 rw[<-h.e];exact cw2 X1 S s o h.dm.wf w1 h.dm.dk
theorem Acc.append (h:Acc F X w S w1 X1) (s:ByteArray) (o:s.size<=maxLen) (A:Option Addr) (m c:Nat) (b:List UInt8) (z:m<=1099511627776) (C:Row w1 w1 A m 1 (bts b)) (E:∀a,A=some a->a.block∉X1.foot):
  Calls prog 184 #[X.d,.string s,.slice A m c] w1 fun e w'=>e=.returned (.int .i64 ((S.append s.data.toList b).2:Int))/\∃X2,Acc F X w (S.append s.data.toList b).1 w' X2:=by
 rw[<-h.e];exact(xk1 X1 S s o A m c b z h.dm.wf w1 h.dm.dk C (fun a H e=>E a H (by rw[e];exact aj.2 (.inl rfl)))).mono fun e w' ⟨h1,h2⟩=>⟨h1,h.step (h.dm.upd (h.dm.wf.append _ _) h2)⟩
theorem Acc.create (h:Acc F X w S w1 X1) (s:ByteArray) (o:s.size<=maxLen) (z:S.load<=1099511627776):
  Calls prog 147 #[X.d,.string s] w1 fun e w'=>e=.returned (.int .i64 ((S.create s.data.toList).2:Int))/\∃X2,Acc F X w (S.create s.data.toList).1 w' X2:=by
 rw[<-h.e];exact(qz2 X1 S s o h.dm.wf z w1 h.dm.dk).mono fun e w' ⟨h1,h2⟩=>⟨h1,h.step (h.dm.upd (h.dm.wf.create _) h2)⟩
theorem Acc.sync (h:Acc F X w S w1 X1) (s:ByteArray) (o:s.size<=maxLen):
  Calls prog 148 #[X.d,.string s] w1 fun e w'=>e=.returned (.int .i64 ((S.sync s.data.toList).2:Int))/\∃X2,Acc F X w (S.sync s.data.toList).1 w' X2:=by
 rw[<-h.e];exact(sync_any X1 S s o h.dm.wf w1 h.dm.dk).mono fun e w' ⟨h1,h2⟩=>⟨h1,h.step (h.dm.upd (h.dm.wf.sync _) h2)⟩
theorem Acc.remove (h:Acc F X w S w1 X1) (s:ByteArray) (o:s.size<=maxLen) (z:S.load<=1099511627776):
  Calls prog 81 #[X.d,.string s] w1 fun e w'=>e=.returned (.int .i64 ((S.remove s.data.toList).2:Int))/\∃X2,Acc F X w (S.remove s.data.toList).1 w' X2:=by
 rw[<-h.e];exact(qq1 X1 S s o h.dm.wf z w1 h.dm.dk).mono fun e w' ⟨h1,h2⟩=>⟨h1,h.step (h.dm.upd (h.dm.wf.remove _) h2)⟩
theorem Acc.ak (h:Acc F X w S w1 X1):
  Calls prog 176 #[X.d] w1 fun e w'=>e=.returned (.int .i64 ((S.ak).2:Int))/\∃X2,Acc F X w (S.ak).1 w' X2:=by
 rw[<-h.e];exact(mz2 X1 S h.dm.wf w1 h.dm.dk).mono fun e w' ⟨h1,h2⟩=>⟨h1,h.step (h.dm.upd h.dm.wf.ak h2)⟩
theorem Acc.list (h:Acc F X w S w1 X1):
  Calls prog 77 #[X.d] w1 fun e w'=>∃A c,e=.returned (.slice A S.list.length c)/\w'.ownsRow w1 9 1 (.slice A S.list.length c) S.list.length (S.list.map Go.Proofs.encStr)/\Below w1 w1 w':=by
 rw[<-h.e];exact fj3 X1 S h.dm.wf w1 h.dm.dk
section
structure Sl where
 a:Option Addr
 n:Nat
 c:Nat
def Gs.cells (M:Gs) (xd:Nat) (P:Sl):List Value:=[xd,.string (str M.name),M.v.log,.slice P.a P.n P.c,[M.v.floor],[M.v.cert],[M.v.at_],[M.v.lease],(M.count:Int),.int .u32 (if M.broken=true then 1 else 0),.int .i32 0,.int .u32 0,.bool M.broken]
abbrev GK (w:World) (m xd:Nat) (M:Gs) (P:Sl):Prop:=BoxO w 160 m (M.cells xd P)
theorem dx4 (m I:Nat) (M:Gs) (P:Sl) (w:World) (h:GK w m I M P):Calls prog 178 #[m] w fun e w'=>e=.returned (.tuple #[])/\GK w' m I { M with broken:=true } P/\Chg [m] w w':=by
 have a2:∀(fn:Fn) (first cap:Array Value) (w:World),(Instr.makeFunc fn first cap).run prog w=.ok (.func fn first cap) w:=fun _ _ _ _=>rfl;have a4:=h.lt;have h1:GK (w.alloc (.cells #[m] 85)) m I M P:=BoxO.alloc h _;have hp:(w.alloc (.cells #[m] 85)).cell? (w:Nat)=some (.pointer (some m)):=by simp
 have J:Chg [m] w (w.alloc (.cells #[m] 85)):=(Chg.refl [m] w).alloc _;generalize hV:w.alloc (.cells #[m] 85)=V at *;have z:=h1.cell 9;have O:=h1.cell 10;have C:=h1.cell 12;simp only[Gs.cells,gE0,gE1]at z O C
 cases H:M.broken with
 |false=>
  rw[H]at z C;simp only[ai_,if_false]at z;have E:=Once.do_first m ⟨w,0,none⟩ (by simp;omega) _ V hp z O C (h1.free 9) (h1.free 10) (h1.free 12);have Q:=((((h1.store 10 (.int .i32 1)).store 12 (.bool true)).drew.store 9 (.int .u32 1)).store 10 (.int .i32 0));have U:Chg [m] V ((((V.setCell (m,10) (.int .i32 1)).setCell (m,12) (.bool true)).drew.setCell (m,9) (.int .u32 1)).setCell (m,10) (.int .i32 0)):=(((((Chg.refl [m] V).setCell _ (.inl s_)).setCell _ (.inl s_)).drew).setCell _ (.inl s_)).setCell _ (.inl s_);have o:GK ((((V.setCell (m,10) (.int .i32 1)).setCell (m,12) (.bool true)).drew.setCell (m,9) (.int .u32 1)).setCell (m,10) (.int .i32 0)) m I { M with broken:=true } P:=Q;have HR:=H_ (d_ o (J.trans U (fun g hg=>.inl hg)));clear o U Q H;go_enter func178,ntmps178;go_wp2_with fail;refine E.mono ?_;rintro e w2 ⟨rfl,rfl⟩;go_wp2;exact bodyPost_end (v:=.tuple #[]) (by simp[results,go_sem]) rfl ⟨rfl,HR⟩
 |true=>
  rw[H]at z;simp only[if_true]at z;have E:=Once.do_done ⟨m,9,none⟩ 1 o_ (.func (.func 230) #[] #[(w:Nat)]) V z;have o:GK V m I { M with broken:=true } P:=by
   have e:({ M with broken:=true }:Gs)=M:=by cases M;simp at H;simp[H]
   rw[e];exact h1
  have HR:=H_ (d_ o J);clear o H;go_enter func178,ntmps178;go_wp2_with fail;refine E.mono ?_;rintro e w2 ⟨rfl,a1⟩;obtain rfl:=a1.symm;go_wp2;exact bodyPost_end (v:=.tuple #[]) (by simp[results,go_sem]) rfl ⟨rfl,HR⟩
structure Vrow (w:World) (X:Dw) (m:Nat) (P:Sl) (fs:List (Int×Int)):Prop where
 row:Row w w P.a P.n 2 (bz fs)
 nc:P.n<=P.c
 cm:P.c<=maxLen
 nb:P.n<=10000
 away:∀j,j < (bz fs).length->∀a,P.a=some a->a.block≠m/\a.block∉X.foot
section
variable {w w':World} {X X':Dw} {m:Nat} {P:Sl} {fs:List (Int×Int)}
theorem nz {B n size:Nat} {A:Option Addr} {xs:List Value} {F:List Nat} (h:Chg F w w') (r:Row B w A n size xs) (o:B<=(w:Nat)) (hF:∀j,j < xs.length->∀a,A=some a->a.block∉F):Row B w' A n size xs:=
 ⟨r.len,fun j hj=>let ⟨a,e,b,c⟩:=r.cell j hj;⟨a,e,b,(h.cell (p:=a.add j) (by rw[add_block];omega) (by rw[add_block];exact hF j hj a e)).trans c⟩⟩
theorem Vrow.below (h:Vrow w X m P fs) (o:Below w w w'):Vrow w' X m P fs:=⟨(h.row.below o).up o.size,h.nc,h.cm,h.nb,h.away⟩
theorem Vrow.turn (h:Vrow w X m P fs) (c:Chg [m] w w'):Vrow w' X m P fs:=⟨(nz c h.row l_ (fun j hj a o z=>(h.away j hj a o).1 (c_.1 z))).up c.size,h.nc,h.cm,h.nb,h.away⟩
theorem Vrow.step (h:Vrow w X m P fs) (c:Chg X.foot w w') (z:∀g∈X'.foot,g∈X.foot\/(w:Nat)<=g):Vrow w' X' m P fs:=
 ⟨(nz c h.row l_ (fun j hj a o=>(h.away j hj a o).2)).up c.size,h.nc,h.cm,h.nb,fun j hj a o=>⟨(h.away j hj a o).1,fun C=>by
  rcases z _ C with h1|h1
  ·exact(h.away j hj a o).2 h1
  ·obtain⟨E,e,H,_⟩:=h.row.cell j hj
   rw[o]at e;injection e with e;subst e;omega⟩⟩
end
structure Gst (P:Sl) (m:Nat) (X:Dw) (w:World) (S:Sd) (M:Gs) (w':World) (X':Dw):Prop where
 acc:Acc [m] X w S w' X'
 man:GK w' m X.d M P
 row:Vrow w' X' m P M.v.files
 lt:m < (w:Nat)
 out:m∉X.foot
 ng:NG<=m
variable {P P1:Sl} {m:Nat} {X X1:Dw} {w w1 w2:World} {S S1:Sd} {M M1:Gs}
theorem Gst.start (h:Dm w X S) (o:GK w m X.d M P) (z:Vrow w X m P M.v.files) (C:m∉X.foot) (E:NG<=m):Gst P m X w S M w X:=⟨Acc.start h,o,z,o.lt,C,E⟩
theorem Gst.away (h:Gst P m X w S M w1 X1):m∉X1.foot:=fun o=>by
 rcases h.acc.f m o with h1|h1
 ·exact h.out h1
 ·have:=h.lt
  omega
theorem Gst.below (h:Gst P m X w S M w1 X1) (o:Below w1 w1 w2):Gst P m X w S M w2 X1:=⟨h.acc.below o,h.man.below o,h.row.below o,h.lt,h.out,h.ng⟩
theorem Gst.step (h:Gst P m X w S M w1 X1) (E:UpdM X1 w1 w2 S1):∃X2,Gst P m X w S1 M w2 X2:=by
 obtain⟨X2,e,hd,o,C⟩:=E;refine⟨X2,⟨e.trans h.acc.e,hd,h.acc.c.trans o (fun g z=>?_),fun g z=>?_⟩,h.man.chg o h.away,h.row.step o C,h.lt,h.out,h.ng⟩
 ·rcases h.acc.f g z with h1|h1
  ·exact .inl (k_ _ h1)
  ·exact .inr h1
 ·rcases C g z with h1|h1
  ·exact h.acc.f g h1
  ·exact .inr (g_ h.acc.c.size h1)
theorem Gst.turn (h:Gst P m X w S M w1 X1) (c:Chg [m] w1 w2) (o:GK w2 m X.d M1 P) (z:M1.v=M.v):Gst P m X w S M1 w2 X1:=
 ⟨h.acc.other c (fun g C=>by rw[c_.1 C];exact⟨by simp,h.lt,h.out,h.ng⟩),o,by rw[z];exact h.row.turn c,h.lt,h.out,h.ng⟩
theorem Gst.read (h:Gst P m X w S M w1 X1) (s:ByteArray) (o:s.size<=maxLen):
  Calls prog 79 #[X.d,.string s] w1 fun e w'=>∃A c,e=.returned (.tuple #[.slice A (S.read s.data.toList).1.length c,.int .i64 ((S.read s.data.toList).2:Int)])/\Below w1 w1 w':=
 (h.acc.read s o).mono fun _ _ ⟨A,c,h1,_,h2⟩=>⟨A,c,h1,h2⟩
theorem Gst.write (h:Gst P m X w S M w1 X1) (s:ByteArray) (o:s.size<=maxLen) (A:Option Addr) (k c:Nat) (b:List UInt8) (z:k<=1099511627776) (C:S.load<=1099511627776) (E:Row w1 w1 A k 1 (bts b)) (H:∀a,A=some a->a.block∉X1.foot):
  Calls prog 173 #[X.d,.string s,.slice A k c] w1 fun e w'=>e=.returned (.int .i64 ((S.write s.data.toList b).2:Int))/\∃X2,Gst P m X w (S.write s.data.toList b).1 M w' X2:=by
 rw[<-h.acc.e];exact(write_any X1 S s o A k c b z C w1 h.acc.dm E H).mono fun _ _ ⟨h1,h2⟩=>⟨h1,h.step h2⟩
theorem Gst.append (h:Gst P m X w S M w1 X1) (s:ByteArray) (o:s.size<=maxLen) (A:Option Addr) (k c:Nat) (b:List UInt8) (z:k<=1099511627776) (C:Row w1 w1 A k 1 (bts b)) (E:∀a,A=some a->a.block∉X1.foot):
  Calls prog 184 #[X.d,.string s,.slice A k c] w1 fun e w'=>e=.returned (.int .i64 ((S.append s.data.toList b).2:Int))/\∃X2,Gst P m X w (S.append s.data.toList b).1 M w' X2:=by
 rw[<-h.acc.e];exact(xk1 X1 S s o A k c b z h.acc.dm.wf w1 h.acc.dm.dk C (fun a H e=>E a H (by rw[e];exact aj.2 (.inl rfl)))).mono fun _ _ ⟨h1,h2⟩=>⟨h1,h.step (h.acc.dm.upd (h.acc.dm.wf.append _ _) h2)⟩
theorem Gst.sync (h:Gst P m X w S M w1 X1) (s:ByteArray) (o:s.size<=maxLen):
  Calls prog 148 #[X.d,.string s] w1 fun e w'=>e=.returned (.int .i64 ((S.sync s.data.toList).2:Int))/\∃X2,Gst P m X w (S.sync s.data.toList).1 M w' X2:=by
 rw[<-h.acc.e];exact(sync_any X1 S s o h.acc.dm.wf w1 h.acc.dm.dk).mono fun _ _ ⟨h1,h2⟩=>⟨h1,h.step (h.acc.dm.upd (h.acc.dm.wf.sync _) h2)⟩
theorem Gst.remove (h:Gst P m X w S M w1 X1) (s:ByteArray) (o:s.size<=maxLen) (z:S.load<=1099511627776):
  Calls prog 81 #[X.d,.string s] w1 fun e w'=>e=.returned (.int .i64 ((S.remove s.data.toList).2:Int))/\∃X2,Gst P m X w (S.remove s.data.toList).1 M w' X2:=by
 rw[<-h.acc.e];exact(qq1 X1 S s o h.acc.dm.wf z w1 h.acc.dm.dk).mono fun _ _ ⟨h1,h2⟩=>⟨h1,h.step (h.acc.dm.upd (h.acc.dm.wf.remove _) h2)⟩
theorem Gst.rename (h:Gst P m X w S M w1 X1) (s u:ByteArray) (o:s.size<=maxLen) (z:u.size<=maxLen) (C:S.load<=1099511627776):
  Calls prog 177 #[X.d,.string s,.string u] w1 fun e w'=>e=.returned (.int .i64 ((S.rename s.data.toList u.data.toList).2:Int))/\∃X2,Gst P m X w (S.rename s.data.toList u.data.toList).1 M w' X2:=by
 rw[<-h.acc.e];exact(jw4 X1 S s u o z h.acc.dm.wf C w1 h.acc.dm.dk).mono fun _ _ ⟨h1,h2⟩=>⟨h1,h.step (h.acc.dm.upd (h.acc.dm.wf.rename _ _) h2)⟩
theorem Gst.ak (h:Gst P m X w S M w1 X1):
  Calls prog 176 #[X.d] w1 fun e w'=>e=.returned (.int .i64 ((S.ak).2:Int))/\∃X2,Gst P m X w (S.ak).1 M w' X2:=by
 rw[<-h.acc.e];exact(mz2 X1 S h.acc.dm.wf w1 h.acc.dm.dk).mono fun _ _ ⟨h1,h2⟩=>⟨h1,h.step (h.acc.dm.upd h.acc.dm.wf.ak h2)⟩
theorem Gst.pq5 (h:Gst P m X w S M w1 X1):Calls prog 178 #[m] w1 fun e w'=>e=.returned (.tuple #[])/\Gst P m X w S { M with broken:=true } w' X1:=
 (dx4 m X.d M P w1 h.man).mono fun _ _ ⟨h1,h2,h3⟩=>⟨h1,h.turn h3 h2 rfl⟩
theorem Gst.trans {X2:Dw} {S2:Sd} {z:Gs} (h:Gst P m X w S M w1 X1) (k:Gst P1 m X1 w1 S2 z w2 X2):Gst P1 m X w S2 z w2 X2:=by
 refine⟨⟨k.acc.e.trans h.acc.e,k.acc.dm,h.acc.c.trans k.acc.c (fun g o=>?_),fun g o=>?_⟩,by rw[<-h.acc.e];exact k.man,k.row,h.lt,h.out,h.ng⟩
 ·rcases q_.1 o with h1|h1
  ·exact .inl (x_ _ h1)
  ·rcases h.acc.f g h1 with h2|h2
   ·exact .inl (k_ _ h2)
   ·exact .inr h2
 ·rcases k.acc.f g o with h1|h1
  ·exact h.acc.f g h1
  ·exact .inr (g_ h.acc.c.size h1)
theorem Gst.anew (h:Gst P m X w S M w1 X1):Gst P m X1 w1 S M w1 X1:=Gst.start h.acc.dm (by rw[h.acc.e];exact h.man) h.row h.away h.ng
def kx1 (P:Sl) (m:Nat) (X:Dw) (w:World) (R:Sd×Gs×Nat) (e:Ending) (w':World):Prop:=e=.returned (.int .i64 R.2.2)/\∃P' X',Gst P' m X w R.1 R.2.1 w' X'/\(P'=P\/∀a,P'.a=some a->(w:Nat)<=a.block)
theorem kx1.mk_ {S2:Sd} {o:Gs} {er:Nat} {R:Sd×Gs×Nat} (z:R=(S2,o,er)) {X2:Dw} (h:Gst P m X w S2 o w1 X2):kx1 P m X w R (.returned (.int .i64 er)) w1:=by
 subst z;exact⟨rfl,P,X2,h,.inl rfl⟩
theorem kx1.mkN {S2:Sd} {o:Gs} {er:Nat} {R:Sd×Gs×Nat} {P0:Sl} (z:R=(S2,o,er)) {X2:Dw} (h:Gst P m X w S2 o w1 X2) (C:∀a,P.a=some a->(w:Nat)<=a.block):kx1 P0 m X w R (.returned (.int .i64 er)) w1:=by
 subst z;exact⟨rfl,P,X2,h,.inr C⟩
end
section
variable {m:Nat} {X X1:Dw} {w w1 w2:World} {S S1:Sd} {M M1:Ms}
theorem jj2 (n:Int):(Mw.headB n).length<=200:=by
 have h1:=Pn.jq n.toNat;simp only[Mw.headB,Fr.oq];omega
def sCur:ByteArray:=⟨#[99,117,114,114,101,110,116]⟩
def uy2:ByteArray:=⟨#[99,117,114,114,101,110,116,46,116,109,112]⟩
def sMan:ByteArray:=⟨#[109,97,110]⟩
theorem lv3:sCur.data.toList=Mw.kCur:=rfl
theorem qx1:uy2.data.toList=Mw.gy:=rfl
theorem wx1:sMan.data.toList=Mn.kMan:=rfl
theorem ay5 (o:Option Int):numV o=.tuple #[.int .i64 (o.getD 0),.bool o.isSome]:=by cases o<;>rfl
theorem dw3 (s:List UInt8):∃k:Nat,(Mn.number s Mn.kMan).getD 0=(k:Int)/\k<=1073741824:=by
 cases h:Mn.number s Mn.kMan with
 |none=>exact⟨0,rfl,o_⟩
 |some v=>
  have o:s≠[]:=fun e=>by
   subst e;unfold Mn.number at h;rw[if_neg (by decide)]at h
   cases h
  have:=Mn.gx2 h o;exact⟨v.toNat,by simp;omega,o_⟩
end
section
variable {P:Sl} {m:Nat} {X X1:Dw} {w w1 w2:World} {S S1:Sd} {M M1:Gs}
theorem fw3 (nm:ByteArray) (r2:nm.size<=1000) (hv:M.v.ok=true) (r3:S.load<=1000000000000) (h0:Gst P m X w S M w X):
  Calls prog 110 #[m,.string nm] w (kx1 P m X w (Gw.rewrite S M nm.data.toList)):=by
 have U:=h0.man;have c0:=U.cell 0;have c2:=U.cell 2;have c3:=U.cell 3;have c4:=U.cell 4;have c5:=U.cell 5;have c6:=U.cell 6;have c7:=U.cell 7;simp only[Gs.cells,gE0,gE1]at c0 c2 c3 c4 c5 c6 c7;obtain⟨R,hR⟩:=n_ (Gw.rewrite S M nm.data.toList);rw[<-hR];have n0:=Ed.nx1 (Vw.pj1 hv);have E:=fun A n c W hr=>uw3 none 0 0 [] M.v.whole none 0 0 A n c W (Vw.pj1 hv) Row.nil_ hr o_ o_ (by unfold maxLen;omega) Row.nil_;have d4:=uk4 M.v P.a P.n P.c w (by have:=h0.row.nb;omega) h0.row.row;have j3:R=if (S.write nm.data.toList M.v.whole.rec_).2≠0 then ((S.write nm.data.toList M.v.whole.rec_).1,M,(S.write nm.data.toList M.v.whole.rec_).2) else Gw.tmp (S.write nm.data.toList M.v.whole.rec_).1 M nm.data.toList:=hR
 have e7:([]:List UInt8)++M.v.whole.rec_=M.v.whole.rec_:=rfl;rw[e7]at E;unfold Vw.val at d4;unfold Ed.val at d4 E;have HR:=H_ j3;have HP:=H_ E;clear hR E j3 e7;go_enter func110,ntmps110;go_wp2_with fail;refine d4.mono ?_;rintro e w1 ⟨A1,n1,rfl,j4,j5⟩;have h1:=h0.below j5;have E:=HP.out A1 P.n n1 w1 j4.row;clear d4 j4 HP;go_wp2_with fail;refine E.mono ?_;rintro e w2 ⟨A,K,c,rfl,b1,r6,r7,j6⟩;have h2:=h1.below j6;have I:=Row.own b1;have d5:K<=1099511627776:=by
  have e1:=I.xk;omega
 have hA:∀a,A=some a->a.block∉X.foot:=fun a ha hm=>by
  obtain⟨A',c',e,_,_,h6⟩:=ay b1;injection e with e _ _;have h7:=(h6 a (by rw[<-e];exact ha)).1;have h8:=h1.acc.dm.dk.lt _ hm;omega
 have a0:=h2.write nm (by unfold maxLen;omega) A K c M.v.whole.rec_ d5 o_ I hA;have e':=Sd.cq1 S nm.data.toList M.v.whole.rec_;have b2:=H_ a0;have z:R=if (S.write nm.data.toList M.v.whole.rec_).2≠0 then ((S.write nm.data.toList M.v.whole.rec_).1,M,(S.write nm.data.toList M.v.whole.rec_).2) else Gw.tmp (S.write nm.data.toList M.v.whole.rec_).1 M nm.data.toList:=HR.out
 clear a0 HR E hA b1 I j5 j6;generalize S.write nm.data.toList M.v.whole.rec_=PP at *;obtain⟨S1,e1⟩:=PP;simp only at z e';have HS:=H_ z;clear z;go_wp2_with fail;refine b2.mono ?_;rintro e w3 ⟨rfl,X3,h3⟩
 by_cases q1:e1=0
 case neg=>
  have b3:=neq0 q1;have H:=HS.out;rw[if_pos q1]at H;have hl:=H_ (kx1.mk_ H h3);clear H;go_wp2;go_ret;exact hl.out
 subst q1;have g8:Hid (R=Gw.tmp S1 M nm.data.toList):=HS.trans (if_neg s_);have d6:=h3.read uy2 (by decide);rw[qx1]at d6;unfold uy2 at d6;have j':=H_ d6;clear d6 HS b2;go_wp2_with fail;refine j'.mono ?_;rintro e w4 ⟨A4,c4,rfl,k0⟩;have h4:=h3.below k0;clear j' k0;generalize hE:(S1.read Mw.gy).2=k1;generalize (S1.read Mw.gy).1.length=r9;have HE:=H_ hE;clear hE;go_upto_if 53 with (fail)
 go_cut [] (fun wx=>∃S2 X2,Gst P m X w S2 M wx X2/\Hid (R=Gw.hd S2 M nm.data.toList)/\S2.load<=S.load+3)
 case first=>
  by_cases q2:k1=0
  ·subst q2
   have a1:=h4.remove uy2 (by decide) o_;rw[qx1]at a1;unfold uy2 at a1;have n6:=Sd.bz1 S1 Mw.gy;have HT:R=if (S1.remove Mw.gy).2≠0 then ((S1.remove Mw.gy).1,M,(S1.remove Mw.gy).2) else Gw.hd (S1.remove Mw.gy).1 M nm.data.toList:=g8.trans (if_pos HE)
   generalize S1.remove Mw.gy=PP at *;obtain⟨S2,e2⟩:=PP;simp only at HT n6;have a8:=H_ a1;have k2:=H_ HT;clear a1 HT;go_wp2_with fail;refine a8.mono ?_;rintro e w5 ⟨rfl,X5,h5⟩
   by_cases q3:e2=0
   ·subst q3
    have a9:Hid (R=Gw.hd S2 M nm.data.toList):=k2.trans (if_neg s_);go_wp2_with fail
    go_meet
    case rel=>exact⟨S2,X5,h5,a9,o_⟩
   ·have b3:=neq0 q3
    have H:=k2.out;rw[if_pos q3]at H;have hl:=H_ (kx1.mk_ H h5);clear H;go_wp2;go_ret;exact hl.out
  ·have q3:(((k1:Int))==0)=false:=by simp[q2]
   have a9:Hid (R=Gw.hd S1 M nm.data.toList):=g8.trans (if_neg (by rw[HE.out];exact q2));go_wp2_with fail
   go_meet
   case rel=>exact⟨S1,X3,h4,a9,o_⟩
 case rest=>
  obtain⟨S2,X5,h5,a9,r'⟩:=hcut;clear h4 g8 HE h3 h2 h1 e';have o:=pv1 nm sMan o_ (by decide) wc h5.acc.dm.env;rw[wx1,ay5]at o;obtain⟨k,hk,s0⟩:=dw3 nm.data.toList;rw[hk]at o;have HK:=H_ hk;unfold sMan at o;have HN:=H_ o;clear o hk;go_wp2_with fail;refine HN.mono ?_;rintro e w6 ⟨rfl,k3⟩;have h6:=h5.below k3;have hp:=put_any none 0 0 [] k o_ w6 o_ Row.nil_;simp only[am_,D_]at hp;clear HN h5 k3;go_wp2_with fail;refine hp.mono ?_;rintro e w7 ⟨A7,o0,rfl,b5,o1,o2,k4⟩;have h7:=h6.below k4;have s5:=Pn.jq k;have hf:=lv1 none 0 0 [] 8 A7 (Pn.put k).length o0 (Pn.put k) w7 o_ o_ (by unfold maxLen;omega) Row.nil_ o_ o_ o_ o1 o2 (Row.own b5);rw[show ((8:Nat):Int)=8 from rfl]at hf;simp only[D_]at hf;clear hp b5;go_wp2_with fail;refine hf.mono ?_;rintro e w8 ⟨A8,K8,c8,rfl,J,s6,s7,k5⟩;have h8:=h7.below k5;have b6:Fr.put 8 (Pn.put k)=Mw.headB ((Mn.number nm.data.toList Mn.kMan).getD 0):=by
   rw[HK.out];rfl
  rw[b6]at J;have a2:=Row.own J;have d5:K8<=1099511627776:=by
   have e1:=a2.xk;have:=jj2 ((Mn.number nm.data.toList Mn.kMan).getD 0);omega
  have hA:∀a,A8=some a->a.block∉X5.foot:=fun a ha hm=>by
   obtain⟨A',c',e,_,_,h6⟩:=ay J;injection e with e _ _;have h9:=(h6 a (by rw[<-e];exact ha)).1;have d7:=h7.acc.dm.dk.lt _ hm;omega
  have a0:=h8.write uy2 (by decide) A8 K8 c8 _ d5 o_ a2 hA;rw[qx1]at a0;unfold uy2 at a0;have o3:=Sd.cq1 S2 Mw.gy (Mw.headB ((Mn.number nm.data.toList Mn.kMan).getD 0));have g':R=if (S2.write Mw.gy (Mw.headB ((Mn.number nm.data.toList Mn.kMan).getD 0))).2≠0 then ((S2.write Mw.gy (Mw.headB ((Mn.number nm.data.toList Mn.kMan).getD 0))).1,M,(S2.write Mw.gy (Mw.headB ((Mn.number nm.data.toList Mn.kMan).getD 0))).2)
   else Gw.sd1 (S2.write Mw.gy (Mw.headB ((Mn.number nm.data.toList Mn.kMan).getD 0))).1 M nm.data.toList:=a9
  generalize S2.write Mw.gy (Mw.headB ((Mn.number nm.data.toList Mn.kMan).getD 0))=PP at *;obtain⟨S3,e3⟩:=PP;simp only at g' o3;have b2:=H_ a0;have i0:=H_ g';clear a0 g' J a2 hA b6 hf d5 a9 k4 k5 h7 h6;go_wp2_with fail;refine b2.mono ?_;rintro e w9 ⟨rfl,X9,h9⟩
  by_cases q3:e3=0
  case neg=>
   have b3:=neq0 q3;have H:=i0.out;rw[if_pos q3]at H;have hl:=H_ (kx1.mk_ H h9);clear H;go_wp2;go_ret;exact hl.out
  subst q3;have k6:Hid (R=Gw.sd1 S3 M nm.data.toList):=i0.trans (if_neg s_);have k7:=h9.ak;have o4:=Sd.cz1 S3;have i1:R=if (S3.ak).2≠0 then ((S3.ak).1,M,(S3.ak).2) else Gw.ren (S3.ak).1 M nm.data.toList:=k6.out
  generalize S3.ak=PP at *;obtain⟨S4,e4⟩:=PP;simp only at i1 o4;have k8:=H_ k7;have i3:=H_ i1;clear k7 i1 k6 i0 b2 h8;go_wp2_with fail;refine k8.mono ?_;rintro e s9 ⟨rfl,s',d7⟩
  by_cases q4:e4=0
  case neg=>
   have b3:=neq0 q4;have H:=i3.out;rw[if_pos q4]at H;have hl:=H_ (kx1.mk_ H d7);clear H;go_wp2;go_ret;exact hl.out
  subst q4;have k9:Hid (R=Gw.ren S4 M nm.data.toList):=i3.trans (if_neg s_);have d9:=d7.rename uy2 sCur (by decide) (by decide) o_;rw[qx1,lv3]at d9;unfold uy2 sCur at d9;have o6:=Sd.jq2 S4 Mw.gy Mw.kCur;have i4:R=if (S4.rename Mw.gy Mw.kCur).2≠0 then ((S4.rename Mw.gy Mw.kCur).1,M,(S4.rename Mw.gy Mw.kCur).2) else Gw.fin (S4.rename Mw.gy Mw.kCur).1 M nm.data.toList:=k9.out
  generalize S4.rename Mw.gy Mw.kCur=PP at *;obtain⟨S5,e5⟩:=PP;simp only at i4 o6;have k':=H_ d9;have i5:=H_ i4;clear d9 i4 k9 i3 k8 h9;go_wp2_with fail;refine k'.mono ?_;rintro e l1 ⟨rfl,t1,O⟩
  by_cases q5:e5=0
  case neg=>
   have b3:=neq0 q5;have H:=i5.out;rw[if_pos q5]at H;have hl:=H_ (kx1.mk_ H O);clear H;go_wp2;go_ret;exact hl.out
  subst q5;have l2:Hid (R=Gw.fin S5 M nm.data.toList):=i5.trans (if_neg s_);have f1:=O.man.free 1;have f8:=O.man.free 8;have d1:=O.man.cell 1;have d8:=O.man.cell 8;simp only[Gs.cells,gE0,gE1]at d1 d8;have f3:GK ((l1.setCell (m,1) (.string nm)).setCell (m,8) (.int .i64 1)) m X.d { M with name:=nm.data.toList,count:=1 } P:=by
   have b7:=(O.man.store 1 (.string nm)).store 8 (.int .i64 1);unfold GK Gs.cells;simp only[ek1];exact b7
  have b7:=O.turn (((Chg.refl [m] l1).setCell _ (.inl s_)).setCell _ (.inl s_)) f3 rfl;have f4:=b7.ak;have o8:=Sd.cz1 S5;have i6:R=if (S5.ak).2≠0 then ((S5.ak).1,{ M with name:=nm.data.toList,count:=1,broken:=true },(S5.ak).2)
   else (Mw.sweep nm.data.toList (S5.ak).1.list (S5.ak).1,{ M with name:=nm.data.toList,count:=1 },0):=l2
  generalize S5.ak=PP at *;obtain⟨S6,e6⟩:=PP;simp only at i6 o8;have f5:=H_ f4;have b8:=H_ i6;clear f4 i6 l2 i5 k' d7 f3;go_wp2_with fail;refine f5.mono ?_;rintro e t3 ⟨rfl,i7,Q⟩
  by_cases q6:e6=0
  case neg=>
   have b3:=neq0 q6;have H:=b8.out;rw[if_pos q6]at H;have HH:=H_ H;clear H d1 d8 f1 f8 O b7;go_wp2_with fail;refine Q.pq5.mono ?_;rintro e l3 ⟨rfl,b9⟩;have hl:=H_ (kx1.mk_ HH.out b9);go_wp2;go_ret;exact hl.out
  subst q6;have f6:Hid (R=(Mw.sweep nm.data.toList S6.list S6,{ M with name:=nm.data.toList,count:=1 },0)):=b8.trans (if_neg s_);have i8:=Q.acc.list;have b':=kk1 Q.acc.dm.wf;have l4:=pw1 Q.acc.dm.wf;obtain⟨L,hL⟩:=n_ S6.list;rw[<-hL]at i8 b' l4 f6;have o':=H_ b';have l5:=H_ i8;clear hL b' i8 b8 f5 d1 d8 f1 f8 O b7;go_wp2_with fail;refine l5.mono ?_;rintro e l3 ⟨p0,p1,rfl,C,f7⟩;have b9:=Q.below f7;have r1:L.length<=p1:=by
   obtain⟨A',c',e,h1,_⟩:=ay C;injection e with _ e2 e3;omega
  have f9:∀a,p0=some a->a.block∉[m] ++i7.foot:=fun a ha hm=>by
   obtain⟨A',c',e,_,_,h6⟩:=ay C;injection e with e _ _;have d':=(h6 a (by rw[<-e];exact ha)).1
   rcases q_.1 hm with i9|i9
   ·have:=Q.man.lt
    rw[c_.1 i9]at d';omega
   ·have:=Q.acc.dm.dk.lt _ i9
    omega
  have a4:=Row.own C;have d':=b9.anew;have HA:=H_ f9;clear C f7 l5 f9 Q;go_wp2
  go_loopw [104] (fun i wr=>∃(j:Nat) (Sj:Sd) (Xj:Dw),j<=L.length/\i=.int .i64 j/\Gst P m i7 l3 Sj { M with name:=nm.data.toList,count:=1 } wr Xj/\Hid (Mw.sweep nm.data.toList L S6=Mw.sweep nm.data.toList (L.drop j) Sj)/\Sj.load<=S6.load+j) (fun i _=>L.length - (intOf i).toNat)
  case atStart=>exact⟨0,S6,i7,A_ _,rfl,d',rfl,B_ _⟩
  case round=>
   obtain⟨j,Sj,Xj,hj,rfl,a',l6,t6⟩:=hrel
   by_cases p2:j < L.length
   ·have I:=Row.zk2 a4 a'.acc.c l_ HA
    obtain⟨a,l7,rfl,_,i'⟩:=I.enc p2;have l8:=o'.out _ (w_ l7);have t7:=ey1 l8;have c9:L.drop j=L[j]::L.drop (j+1):=aO_ l7;have l9:Mw.sweep nm.data.toList L S6=Mw.sweep nm.data.toList (L.drop (j+1)) (if (Mn.number L[j] Mn.kMan).isSome&&!(L[j]==nm.data.toList) then (Sj.remove L[j]).1 else Sj):=by
     rw[show Mw.sweep nm.data.toList L S6=_ from l6.out,c9];rfl
    have z:=H_ l9;have o:=pv1 (str L[j]) sMan (by rw[jy];omega) (by decide) wr a'.acc.dm.env;rw[kz,wx1,ay5]at o;unfold sMan at o;have a5:=fun w2 (hb:Below wr wr w2)=>(a'.below hb).remove (str L[j]) (by rw[jy];unfold maxLen;omega) o_;have n0:=Sd.bz1 Sj L[j];rw[kz]at a5;have p3:=d'.acc.e;have l':=b9.acc.e;rw[l']at a5;have a8:=H_ a5;have e0:=H_ o;have m0:((str L[j]).toList==nm.toList)=(L[j]==nm.data.toList):=by
     rw[ByteArray.toList_eq,ByteArray.toList_eq,kz]
    have m1:=H_ m0;clear a5 o l9 c9 l8 I p3 l' m0;generalize L[j]=s at *;go_wp2_with fail;refine e0.mono ?_;rintro e p4 ⟨rfl,d0⟩
    cases d2:Mn.number s Mn.kMan with
    |none=>
     rw[d2]at z;have d3:=a'.below d0;clear d2 e0 a8 i';go_wp2;go_roundw
     case rel=>exact⟨j+1,Sj,Xj,o_,by go_num,d3,z,o_⟩
     case measure=>simp[intOf];omega
    |some v=>
     rw[d2]at z
     cases hq:(s==nm.data.toList) with
     |true=>
      have q1:((str s).toList==nm.toList)=true:=by rw[m1.out,hq]
      rw[hq]at z;have d3:=a'.below d0;clear d2 e0 a8 i' hq;go_wp2;go_roundw
      case rel=>exact⟨j+1,Sj,Xj,o_,by go_num,d3,z,o_⟩
      case measure=>simp[intOf];omega
     |false=>
      have q1:((str s).toList==nm.toList)=false:=by rw[m1.out,hq]
      rw[hq]at z;have a1:=a8.out p4 d0;have g4:Mw.sweep nm.data.toList L S6=Mw.sweep nm.data.toList (L.drop (j+1)) (Sj.remove s).1:=z.out;generalize Sj.remove s=PP at *;have m2:=H_ g4;have m3:=H_ a1;clear d2 e0 a8 i' hq a1 g4 z;go_wp2_with fail;refine m3.mono ?_;rintro e t9 ⟨rfl,p5,d3⟩;go_wp2;go_roundw
      case rel=>exact⟨j+1,PP.1,p5,o_,by go_num,d3,m2,o_⟩
      case measure=>simp[intOf];omega
   ·have e1:L.drop j=[]:=aC_ o_
    have m4:R=(Sj,{ M with name:=nm.data.toList,count:=1 },0):=by
     have:=l6.out;rw[e1]at this;rw[show R=_ from f6.out,this];rfl
    have hl:=H_ (kx1.mk_ m4 (b9.trans a'));clear e1 m4 a4;go_wp2;go_ret;exact hl.out
end
section
variable {m:Nat} {X X1:Dw} {w w1 w2:World} {S S1:Sd} {M M1:Ms}
theorem qj4 (n:Int):(Mn.name Mn.kMan n).length<=1000:=by
 by_cases o:Mn.name Mn.kMan n=[]
 ·rw[o];simp
 ·have:=Mn.xw2 o
  omega
end
section
variable {P:Sl} {m:Nat} {X X1:Dw} {w w1 w2:World} {S S1:Sd} {M M1:Gs}
theorem kv4 (o:Nat) (h:GK w m o M P):Calls prog 180 #[m] w fun e w'=>e=.returned (.string (str M.name))/\w=w':=by
 have c1:=h.cell 1;simp only[Gs.cells,gE0,gE1]at c1;go_enter func180,ntmps180;go_wp2;go_ret;exact⟨rfl,rfl⟩
theorem cy3 (o:Nat) (h:GK w m o M P):Calls prog 137 #[m] w fun e w'=>e=.returned (.bool M.broken)/\w=w':=by
 have c1:=h.cell 12;simp only[Gs.cells,gE0,gE1]at c1;go_enter func137,ntmps137;go_wp2;go_ret;exact⟨rfl,rfl⟩
theorem qz1 (xd:Nat) (h:GK w m xd M P) (hr:Row w w P.a P.n 2 (bz M.v.files)) (hn:P.n<=10000):Calls prog 38 #[m] w fun e w'=>∃A c,e=.returned (M.v.val A P.n c)/\ix1 w w' A P.n c M.v.files/\Below w w w':=by
 have a9:=h.lt;have h1:GK (w.alloc (.cells #[.int .i64 0,.slice none 0 0,.int .u64 0,.int .u64 0,.int .u64 0,.int .u64 0] 106)) m xd M P:=BoxO.alloc h _;have J:=(hr.alloc l_ (.cells #[.int .i64 0,.slice none 0 0,.int .u64 0,.int .u64 0,.int .u64 0,.int .u64 0] 106)).up (B':=(w.alloc (.cells #[.int .i64 0,.slice none 0 0,.int .u64 0,.int .u64 0,.int .u64 0,.int .u64 0] 106)).heap.size) s_;have c2:=h1.cell 2;have c3:=h1.cell 3;have c4:=h1.cell 4;have c5:=h1.cell 5;have c6:=h1.cell 6;have c7:=h1.cell 7;have O:=BoxO.new w #[.int .i64 0,.slice none 0 0,.int .u64 0,.int .u64 0,.int .u64 0,.int .u64 0] 106;simp only[Gs.cells,gE0,gE1]at c2 c3 c4 c5 c6 c7;have Q:=tx4 M.v P.a P.n P.c _ o_ J;have E:Below w w (w.alloc (.cells #[.int .i64 0,.slice none 0 0,.int .u64 0,.int .u64 0,.int .u64 0,.int .u64 0] 106)):=b_ _ _;unfold Vw.val at *;generalize hV:w.alloc (.cells #[.int .i64 0,.slice none 0 0,.int .u64 0,.int .u64 0,.int .u64 0,.int .u64 0] 106)=V at *;go_enter func38,ntmps38;go_wp2_with fail;refine Q.mono ?_;rintro e w1 ⟨A1,c1,rfl,H,I⟩;have U:=az E I;have o:=O.below I;have a8:=o.lt;have z:=H.base E.size;have f0:=o.free 0;have f1:=o.free 1;have f2:=o.free 2;have f3:=o.free 3;have f4:=o.free 4;have f5:=o.free 5;have g0:=o.c0;have g1:=o.c1;have g2:=o.c2;have g3:=o.c3;have g4:=o.c4;have g5:=o.c5;have a0:=(((((U.setCell (p:=⟨w,0,none⟩) l_ M.v.log).setCell (p:=⟨w,1,none⟩) l_ (.slice A1 P.n c1)).setCell (p:=⟨w,2,none⟩) l_ (.int .u64 M.v.floor)).setCell (p:=⟨w,3,none⟩) l_ (.int .u64 M.v.cert)).setCell (p:=⟨w,4,none⟩) l_ (.int .u64 M.v.at_)).setCell (p:=⟨w,5,none⟩) l_ (.int .u64 M.v.lease);have a1:Chg [(w:Nat)] w1 ((((((w1.setCell w M.v.log).setCell (w,1) (.slice A1 P.n c1)).setCell (w,2) (.int .u64 M.v.floor)).setCell (w,3) (.int .u64 M.v.cert)).setCell (w,4) (.int .u64 M.v.at_)).setCell (w,5) (.int .u64 M.v.lease)):=
  ((((((Chg.refl [(w:Nat)] w1).setCell _ (.inl s_)).setCell _ (.inl s_)).setCell _ (.inl s_)).setCell _ (.inl s_)).setCell _ (.inl s_)).setCell _ (.inl s_)
 have a4:(V:Nat)=(w:Nat)+1:=by rw[<-hV];simp
 have C:=z.chg a1 (fun a ha hm=>by have:=H.low a ha;simp at hm;omega);have HS:=H_ a0;have HF:=H_ C;clear a0 o O I U E Q h1 c2 c3 c4 c5 c6 c7 a1 H z C J hr hV a4;go_wp2;exact bodyPost_ret (v:=.agg #[M.v.log,.slice A1 P.n c1,[M.v.floor],[M.v.cert],[M.v.at_],[M.v.lease]]) (by simp[results,results38,go_sem,g0,g1,g2,g3,g4,g5]) rfl ⟨A1,c1,rfl,HF,HS⟩
structure cz6 (P:Sl) (X:Dw) (w:World) (S:Sd) (M:Gs) (m:Nat) (w':World) (X':Dw):Prop where
 e:X'.d=X.d
 dm:Dm w' X' S
 man:GK w' m X.d M P
 row:Vrow w' X' m P M.v.files
 away:m∉X'.foot
 c:Chg X.foot w w'
 f:∀g∈X'.foot,g∈X.foot\/(w:Nat)<=g
 new:(w:Nat)<=m
theorem gy5 (z:Below w w w1) (C:(w:Nat)<=m) (k:Gst P m X w1 S1 M1 w2 X1):cz6 P X w S1 M1 m w2 X1:=
 ⟨k.acc.e,k.acc.dm,k.man,k.row,k.away,((Chg.of_below z X.foot).trans k.acc.c (fun g o=>by
  rcases q_.1 o with h1|h1
  ·rw[c_.1 h1];exact .inr C
  ·exact .inl h1)),fun g o=>by
  rcases k.acc.f g o with h1|h1
  ·exact .inl h1
  ·exact .inr (g_ z.size h1),C⟩
theorem fy5 (v:Vw) (A:Option Addr) (n c:Nat) (hv:v.ok=true) (hn:n<=10000) (b3:n<=c) (b5:c<=maxLen) (hr:Row w w A n 2 (bz v.files)) (b6:S.load<=1000000000000) (h:Dm w X S) (R:Sd×Gs×Nat) (hR:R=Gw.rewrite S ⟨[],v,0,false⟩ (Mn.name Mn.kMan 1)) (a2:R.2.2=0):
  Calls prog 84 #[X.d,v.val A n c] w fun e w'=>∃P m X',e=.returned (.tuple #[.pointer (some ⟨m,0,none⟩),.int .i64 0])/\cz6 P X w R.1 R.2.1 m w' X':=by
 have HR:=H_ hR;have b7:=H_ a2;clear hR a2;have O:Below w w (w.alloc (.cells #[v.log,.slice A n c,[v.floor],[v.cert],[v.at_],[v.lease]] 106)):=b_ _ _;have z:=BoxO.new w #[v.log,.slice A n c,[v.floor],[v.cert],[v.at_],[v.lease]] 106;generalize hV:w.alloc (.cells #[v.log,.slice A n c,[v.floor],[v.cert],[v.at_],[v.lease]] 106)=V at *;have a0:=(hr.below O).up O.size;have Q:=pz5 v A n c V o_ b3 b5 a0;rw[hv]at Q;have E:=fun W hW=>tx4 v A n c W o_ hW;have x0:=z.c0;have x1:=z.c1;have x2:=z.c2;have x3:=z.c3;have x4:=z.c4;have x5:=z.c5;unfold Vw.val at Q E ⊢;have a4:=H_ E;clear E;go_enter func84,ntmps84;go_wp2_with fail;refine Q.mono ?_;rintro e w1 ⟨rfl,I⟩;have o:=z.below I;have x0:=o.c0;have x1:=o.c1;have x2:=o.c2;have x3:=o.c3;have x4:=o.c4;have x5:=o.c5;have J:=az O I;have E:=a4.out w1 ((a0.below I).up I.size);clear Q I z O a4 a0 hr;go_wp2_with fail;refine E.mono ?_;rintro e w2 ⟨A2,c2,rfl,H,a5⟩;have C:=az J a5;have a6:=C.alloc C.size (.cells #[X.d,.string ⟨#[]⟩,v.log,.slice A2 n c2,[v.floor],[v.cert],[v.at_],[v.lease],.int .i64 0,.int .u32 0,.int .i32 0,.int .u32 0,.bool false] 160);have a7:GK (w2.alloc (.cells #[X.d,.string ⟨#[]⟩,v.log,.slice A2 n c2,[v.floor],[v.cert],[v.at_],[v.lease],.int .i64 0,.int .u32 0,.int .i32 0,.int .u32 0,.bool false] 160)) w2 X.d ⟨[],v,0,false⟩ ⟨A2,n,c2⟩:=BoxO.new w2 #[X.d,.string ⟨#[]⟩,v.log,.slice A2 n c2,[v.floor],[v.cert],[v.at_],[v.lease],.int .i64 0,.int .u32 0,.int .i32 0,.int .u32 0,.bool false] 160;have a8:=C.size;have h3:=h.below a6;have a9:Vrow (w2.alloc (.cells #[X.d,.string ⟨#[]⟩,v.log,.slice A2 n c2,[v.floor],[v.cert],[v.at_],[v.lease],.int .i64 0,.int .u32 0,.int .i32 0,.int .u32 0,.bool false] 160)) X w2 ⟨A2,n,c2⟩ v.files:=by
  refine⟨(H.row.alloc l_ _).up s_,H.nc,H.cm,hn,fun j hj a ha=>⟨?_,fun hm=>?_⟩⟩
  ·obtain⟨a',e,hb,_⟩:=H.row.cell j hj
   simp only at ha;rw[ha]at e;injection e with e;subst e;omega
  ·have h4:=H.low a ha
   have h5:=h.dk.lt _ hm;have:=J.size;omega
 generalize b':w2.alloc (.cells #[X.d,.string ⟨#[]⟩,v.log,.slice A2 n c2,[v.floor],[v.cert],[v.at_],[v.lease],.int .i64 0,.int .u32 0,.int .i32 0,.int .u32 0,.bool false] 160)=V3 at *;have U:=name_any sMan (by decide) 1 o_ V3 h3.env;rw[wx1]at U;unfold sMan at U;have b0:Gst ⟨A2,n,c2⟩ w2 X V3 S ⟨[],v,0,false⟩ V3 X:=Gst.start h3 a7 a9 (fun hm=>by have:=h.dk.lt _ hm;omega) (g_ h.env.base a8);clear E a5 C J a7 o x0 x1 x2 x3 x4 x5 a9 H;go_wp2_with fail;clear b';generalize (w2:Nat)=m at *;refine U.mono ?_;rintro e w4 ⟨rfl,b1⟩;have h4:=b0.below b1;have d0:=qj4 1;have a1:=fw3 (str (Mn.name Mn.kMan 1)) (by rw[jy];exact d0) hv b6 h4.anew;rw[kz,<-show R=_ from HR.out]at a1;have b2:=H_ a1;clear a1 U b1;go_wp2_with fail;refine b2.mono ?_;rintro e w5 ⟨rfl,P5,X5,h5,_⟩;rw[show R.2.2=_ from b7.out];have HB:=H_ (gy5 a6 a8 (h4.trans h5));clear h5 h4 b0 h3 b2;go_wp2;go_ret2;exact⟨_,_,_,rfl,HB⟩
end
namespace Mw
open Mn
def man (n:Nat):List UInt8:=name kMan n
theorem gq2 {n:Nat} (h1:1<=n) (h2:n<=1073741824):(fits n&&isKind kMan)=true:=by
 have:isKind kMan=true:=by decide
 rw[this];simp[fits];omega
theorem rw2 {n:Nat} (h1:1<=n) (h2:n<=1073741824):man n=[109,97,110,46] ++Lib.decDigits n:=by
 rw[man,gk1 (gq2 h1 h2)];rfl
theorem iq1 {n:Nat} (h1:1<=n) (h2:n<=1073741824):Sd.named (man n)=true:=sw2 (gq2 h1 h2)
theorem kk2 {n:Nat} (h1:1<=n) (h2:n<=1073741824):man n≠kCur:=by
 rw[rw2 h1 h2];simp[kCur]
theorem iw1 {n:Nat} (h1:1<=n) (h2:n<=1073741824):man n≠gy:=by
 rw[rw2 h1 h2];simp[gy]
theorem lq1:kCur≠gy:=by decide
theorem dy1 {n:Nat} (h1:1<=n) (h2:n<=1073741824):number (man n) kMan=some (n:Int):=pw3 (gq2 h1 h2)
theorem fv1:number kCur kMan=none:=by
 unfold number;rw[if_neg (by decide)]
theorem px1 (nm:List UInt8):∀(l:List (List UInt8)) (d:Sd),(∀s∈l,(number s kMan).isSome=true->s=nm)->sweep nm l d=d
 |[],d,_=>rfl
 |o::r,d,h=>by
  rw[sweep];have:((number o kMan).isSome&&!(o==nm))=false:=by
   cases z:(number o kMan).isSome with
   |false=>rfl
   |true=>
    have:=h o s_ z;simp[this]
  rw[this];exact px1 nm r d (fun s C=>h s (by simp[C]))
theorem ik1:Sd.named kCur=true:=by decide
theorem vk:Sd.named gy=true:=by decide
end Mw
section
variable {W0 w w1 w2:World} {X X1:Dw} {S S1:Sd} {m m1:Nat} {M M1:Ms}
namespace Mw
open Mn
theorem xx1 (nm:List UInt8):∀(l:List (List UInt8)) (d:Sd),(sweep nm l d).load<=d.load+l.length
 |[],d=>B_ _
 |o::r,d=>by
  rw[sweep];have h:=xx1 nm r;split
  ·have h1:=h (d.remove o).1
   have h2:=Sd.bz1 d o;simp only[r_];omega
  ·have h1:=h d
   simp only[r_];omega
end Mw
end
namespace Gw
open Mn
open Mw (kCur gy headB sweep man iq1 kk2 iw1 lq1 ik1 vk dy1 fv1 px1)
end Gw
section
end
section
structure Ev where
 e:Ed
 D:Option Addr
 m:Nat
 d:Nat
 A:Option Addr
 n:Nat
 c:Nat
structure Vc where
 v:Vw
 A:Option Addr
 n:Nat
 c:Nat
variable {B B' n:Nat} {w w':World} {A:Option Addr} {xs:List Ev} {ys:List Vc}
variable {b0 base:Nat} {gv ov gv' ov':Value} {gs:List Ev} {vs:List Vc}
theorem pv5 {B n size:Nat} {xs:List Value} (h:Row B w A n size xs) {j:Nat} (hj:j < xs.length) {a:Addr} (o:A=some a):a.block < B:=by
 obtain⟨z,e,b,_⟩:=h.cell j hj;rw[o]at e;injection e with e;subst e;exact b
end
section
variable {P:Sl} {m:Nat} {X X1:Dw} {w w1 w2:World} {S S1:Sd} {M M1:Gs}
theorem Gst.sq3 {o:Sl} {m:Nat} {X X1:Dw} {w w1 w2:World} {S:Sd} {M M1:Gs} (h:Gst P m X w S M w1 X1) (c:Chg [m] w1 w2) (z:GK w2 m X.d M1 o) (C:Vrow w2 X1 m o M1.v.files):Gst o m X w S M1 w2 X1:=
 ⟨h.acc.other c (fun g E=>by rw[c_.1 E];exact⟨by simp,h.lt,h.out,h.ng⟩),z,C,h.lt,h.out,h.ng⟩
theorem kz4 {P S a oi v} (h:Hv P S a oi v:=by intro w o;(obtain⟨z2,z3,z4,z5,z6,z7,y0,y1,y2,y3,y4,y5,y6⟩:=KC.out w o);go_simp;try (with_reducible rfl)):Hv P S a oi v:=h
theorem oz4 (e:Ed) (D:Option Addr) (dm dd:Nat) (A2:Option Addr) (n2 c2:Nat) (n1:dm<=1000000) (n3:n2<=1000000) (j8:Row w w D dm 1 (pz e.drop)) (j9:Row w w A2 n2 2 (bz e.add)) (q3:P.n<=40)
  (q4:M.count<=1000000000) (q5:M.name.length<=1000) (h0:Gst P m X w S M w X):
  Calls prog 136 #[m,e.val D dm dd A2 n2 c2] w (kx1 P m X w (Gw.save S M e)):=by
 obtain⟨R,hR⟩:=n_ (Gw.save S M e);rw[<-hR];unfold Ed.val;have a7:Below w w (w.alloc (.cells #[.slice D dm dd,.slice A2 n2 c2,e.log,[e.floor],[e.cert],[e.at_],[e.lease]] 135)):=b_ _ _;have h1:=h0.below a7;have a2:=BoxO.new w #[.slice D dm dd,.slice A2 n2 c2,e.log,[e.floor],[e.cert],[e.at_],[e.lease]] 135;have b2:=(j8.below a7).up a7.size;have b3:=(j9.below a7).up a7.size;have q6:=h0.man.lt;have k0:=a7;generalize hV:w.alloc (.cells #[.slice D dm dd,.slice A2 n2 c2,e.log,[e.floor],[e.cert],[e.at_],[e.lease]] 135)=V at *;have i2:=h1.man.cell 12;have y0:=a2.cell 0;have y1:=a2.cell 1;have y2:=a2.cell 2;have y3:=a2.cell 3;have y4:=a2.cell 4;have y5:=a2.cell 5;have y6:=a2.cell 6;simp only[Gs.cells,gE0,gE1]at i2 y0 y1 y2 y3 y4 y5 y6
 cases a5:M.broken with
 |true=>
  have hh:R=(S,M,14):=by rw[hR,Gw.save,if_pos a5]
  have hl:=H_ (kx1.mk_ hh h1);rw[a5]at i2;clear hR hh a5;go_enter func136,ntmps136;go_wp2;go_ret;exact hl.out
 |false=>
 rw[a5]at i2
 cases E:e.may with
 |false=>
  have hh:R=(S,M,1):=by rw[hR,Gw.save,if_neg (by simp[a5]),if_pos E]
  have Q:=ek5 none 0 0 e D dm dd A2 n2 c2 V E n1 n3 b2 b3;unfold Ed.val at Q;have HH:=H_ hh;clear hR hh a5 E;go_enter func136,ntmps136;go_wp2_with fail;refine Q.mono ?_;rintro e1 w2 ⟨rfl,a4⟩;have hl:=H_ (kx1.mk_ HH.out (h1.below a4));go_wp2;go_ret;exact hl.out
 |true=>
  have n5:=gv2 E;have n6:=j8.ilen;have n7:=j9.flen;have q8:=Ed.nx1 E;have Q:=uw3 none 0 0 [] e D dm dd A2 n2 c2 V E b2 b3 o_ o_ (by unfold maxLen;omega) Row.nil_;have i5:([]:List UInt8)++e.rec_=e.rec_:=rfl;rw[i5]at Q;unfold Ed.val at Q;obtain⟨a9,U⟩:∃b,b=(M.v.app e).isSome:=⟨_,rfl⟩;obtain⟨z,a'⟩:∃u,u=(M.v.app e).getD Vw.none_:=⟨_,rfl⟩;have HT:R=if a9=true then Gw.put S M e z else (S,M,1):=by
   rw[hR,Gw.save,if_neg (by simp[a5]),if_neg (by simp[E])];rw[U,a']
   cases M.v.app e with
   |none=>rfl
   |some u=>rfl
  have k1:=H_ HT;have n8:dm<=40:=o_
  have n9:n2<=40:=o_
  clear hR HT a5 i5 E n5 n6 n7;go_enter func136,ntmps136;go_wp2_with fail;refine Q.mono ?_;rintro e1 w2 ⟨A,K,c,rfl,b5,q9,q',a4⟩;have h2:=h1.below a4;have p2:(w:Nat)<=(w2:Nat):=h2.acc.c.size;have i6:=a2.below a4;have i7:=(b2.below a4).up a4.size;have i8:=(b3.below a4).up a4.size;have k8:∀w':World,Below w2 w2 w'->w'.cell? (m,2)=some (.int .i64 M.v.log)/\w'.cell? (m,3)=some (.slice P.a P.n P.c)/\w'.cell? (m,4)=some (.int .u64 M.v.floor)/\w'.cell? (m,5)=some (.int .u64 M.v.cert)/\w'.cell? (m,6)=some (.int .u64 M.v.at_)/\w'.cell? (m,7)=some (.int .u64 M.v.lease)/\
    w'.cell? (w:Nat)=some (.slice D dm dd)/\w'.cell? (w,1)=some (.slice A2 n2 c2)/\w'.cell? (w,2)=some (.int .i64 e.log)/\w'.cell? (w,3)=some (.int .u64 e.floor)/\w'.cell? (w,4)=some (.int .u64 e.cert)/\w'.cell? (w,5)=some (.int .u64 e.at_)/\w'.cell? (w,6)=some (.int .u64 e.lease):=fun w' hb=>by
   have b6:=(h2.below hb).man;have b0:=i6.below hb;exact⟨b6.cell 2,b6.cell 3,b6.cell 4,b6.cell 5,b6.cell 6,b6.cell 7,b0.cell 0,b0.cell 1,b0.cell 2,b0.cell 3,b0.cell 4,b0.cell 5,b0.cell 6⟩
  have KC:=H_ k8;have b7:∀W,Below w2 w2 W->Calls prog 153 #[.agg #[M.v.log,.slice P.a P.n P.c,[M.v.floor],[M.v.cert],[M.v.at_],[M.v.lease]],.agg #[.slice D dm dd,.slice A2 n2 c2,e.log,[e.floor],[e.cert],[e.at_],[e.lease]]] W fun r W'=>Below W.heap.size W W'/\∃H I J,r=.returned (.tuple #[.agg #[z.log,.slice H I J,[z.floor],[z.cert],[z.at_],[z.lease]],.bool a9])/\(a9=true->ix1 W.heap.size W' H I J z.files):=fun W hW=>by
   refine(ev3 M.v P.a P.n P.c e D dm dd A2 n2 c2 W o_ o_ o_ ((h2.row.row.below hW).up hW.size) ((i7.below hW).up hW.size) ((i8.below hW).up hW.size)).mono ?_;rintro r W' ⟨hb,hr⟩;refine⟨hb,?_⟩
   cases b8:M.v.app e with
   |none=>
    rw[b8]at hr U a';subst U a';exact⟨none,0,0,hr,fun h=>by cases h⟩
   |some u=>
    rw[b8]at hr U a';subst U a';obtain⟨A3,N3,c3,hr,hf⟩:=hr;exact⟨A3,N3,c3,hr,fun _=>hf⟩
  have e3:a9=true->z.files.length<=40:=fun ho=>by
   cases b8:M.v.app e with
   |none=>rw[U,b8]at ho;cases ho
   |some u=>rw[a',b8];exact Vw.mw4 b8
  have b9:=H_ b7;have k9:=H_ e3;clear b7 k8 y0 y1 y2 y3 y4 y5 y6 Q i2 a4 U a' e3 j8 j9 b2 b3 i7 i8 a2 i6 hV;go_wp2;refine w_h w2 fun o=>?_;refine w_v 0 o ?_ (k:=kz4);go_simp;refine w_v 1 o ?_ (k:=kz4);go_simp;refine w_v 2 o ?_ (k:=kz4);go_simp;refine w_v 3 o ?_ (k:=kz4);go_simp;refine w_v 4 o ?_ (k:=kz4);go_simp;refine wpAnyH_ready (rs:=[5,9]) (by kernel_rfl) s_ ?_;refine AllReadyH.cons rfl (fun K hK=>?_) (AllReadyH.cons rfl (fun K hK=>?_) AllReadyH.nil)
  case' refine_1=>
   go_simp;refine(b9.out _ o).mono ?_;rintro e5 w5 ⟨b',H,I,J,rfl,c9⟩;go_simp;refine hK.out _ _ (o.trans (b'.mono o.size)) ?_;clear o hK K;intro o;go_simp;refine w_v 6 o ?_ (k:=kz4);go_simp;refine w_v 7 o ?_ (k:=kz4);go_simp;refine w_v 8 o ?_ (k:=kz4);go_simp;have i3:=H_ o;refine w_r 9 fun K hK=>?_;go_simp;refine hK.out _ _ (o.alloc o.size _) ?_;clear o hK K;intro o;go_simp;refine w_r 10 fun K hK=>?_;go_simp;refine hK.out _ _ (i3.out.alloc i3.out.size _) ?_;clear o hK K;intro o;go_simp;refine w_r 11 fun K hK=>?_;go_simp;refine hK.out _ _ o ?_;clear o hK K;intro o;go_simp;refine w_d ?_;have b1:BoxO _ 106 (w5:Nat) [z.log,.slice H I J,[z.floor],[z.cert],[z.at_],[z.lease]]:=BoxO.new w5 #[z.log,.slice H I J,[z.floor],[z.cert],[z.at_],[z.lease]] 106;have o0:(w2:Nat)<=(w5:Nat):=i3.out.size;have e4:a9=true->ix1 w2 (w5.alloc (.cells #[z.log,.slice H I J,[z.floor],[z.cert],[z.at_],[z.lease]] 106)) H I J z.files:=fun ho=>((c9 ho).base l_).below (b_ _ _);generalize (w5:Nat)=gb at *;generalize w5.alloc (.cells #[z.log,.slice H I J,[z.floor],[z.cert],[z.at_],[z.lease]] 106)=W at *;clear i3 b' c9 w5
  case' refine_2=>
   go_simp;refine hK.out _ _ (o.alloc o.size _) ?_;clear o hK K;intro o;go_simp;refine w_r 5 fun K hK=>?_;have k':BoxO (w2.drew.alloc (.cells #[.int .i64 0,.slice none 0 0,.int .u64 0,.int .u64 0,.int .u64 0,.int .u64 0] 106)) 106 (w2:Nat) [.int .i64 0,.slice none 0 0,.int .u64 0,.int .u64 0,.int .u64 0,.int .u64 0]:=BoxO.new w2.drew #[.int .i64 0,.slice none 0 0,.int .u64 0,.int .u64 0,.int .u64 0,.int .u64 0] 106;go_simp;refine(b9.out _ o).mono ?_;rintro e5 w5 ⟨b',H,I,J,rfl,c9⟩;have C:=k'.below b';go_simp;refine hK.out _ _ (o.trans (b'.mono o.size)) ?_;clear o hK K;intro o;go_simp;refine w_v 6 o ?_ (k:=kz4);go_simp;refine w_v 7 o ?_ (k:=kz4);go_simp;refine w_v 8 o ?_ (k:=kz4);go_simp;have g0:=C.c0;have f0:=C.free 0;have g1:=C.c1;have f1:=C.free 1;have g2:=C.c2;have f2:=C.free 2;have g3:=C.c3;have f3:=C.free 3;have g4:=C.c4;have f4:=C.free 4;have g5:=C.c5;have f5:=C.free 5;refine w_r 10 fun K hK=>?_;go_simp;have b1:=((((((C.store 0 (.int .i64 z.log)).store 1 (.slice H I J)).store 2 (.int .u64 z.floor)).store 3 (.int .u64 z.cert)).store 4 (.int .u64 z.at_)).store 5 (.int .u64 z.lease));have l1:=(((((((Chg.refl [(w2:Nat)] w5).setCell (p:=⟨w2,0,none⟩) z.log (.inl s_)).setCell (p:=⟨w2,1,none⟩) (.slice H I J) (.inl s_)).setCell (p:=⟨w2,2,none⟩) (.int .u64 z.floor) (.inl s_)).setCell (p:=⟨w2,3,none⟩) (.int .u64 z.cert) (.inl s_)).setCell (p:=⟨w2,4,none⟩) (.int .u64 z.at_) (.inl s_)).setCell (p:=⟨w2,5,none⟩) (.int .u64 z.lease) (.inl s_));refine hK.out _ _ ((((((o.setCell (p:=⟨w2,0,none⟩) l_ _).setCell (p:=⟨w2,1,none⟩) l_ _).setCell (p:=⟨w2,2,none⟩) l_ _).setCell (p:=⟨w2,3,none⟩) l_ _).setCell (p:=⟨w2,4,none⟩) l_ _).setCell (p:=⟨w2,5,none⟩) l_ _) (fun l2=>?_);clear g0 g1 g2 g3 g4 g5 f0 f1 f2 f3 f4 f5;clear hK K o;have o:=l2;clear l2;go_simp;refine w_r 11 fun K hK=>?_;go_simp;refine hK.out _ _ o ?_;clear o hK K;intro o;go_simp;refine w_d ?_;have b1:BoxO _ 106 (w2:Nat) [z.log,.slice H I J,[z.floor],[z.cert],[z.at_],[z.lease]]:=b1;have e4:a9=true->ix1 w2 ((((((w5.setCell w2 z.log).setCell (w2,1) (.slice H I J)).setCell (w2,2) (.int .u64 z.floor)).setCell (w2,3) (.int .u64 z.cert)).setCell (w2,4) (.int .u64 z.at_)).setCell (w2,5) (.int .u64 z.lease)) H I J z.files:=fun ho=>((c9 ho).chg l1 (fun a ha hm=>by have:=(c9 ho).low a ha;simp at hm this;omega)).base s_;obtain⟨gb,i9,o0⟩:∃g,g=(w2:Nat)/\(w2:Nat)<=g:=⟨_,rfl,B_ _⟩;generalize ((((((w5.setCell w2 z.log).setCell (w2,1) (.slice H I J)).setCell (w2,2) (.int .u64 z.floor)).setCell (w2,3) (.int .u64 z.cert)).setCell (w2,4) (.int .u64 z.at_)).setCell (w2,5) (.int .u64 z.lease))=W at *;clear C k' b' l1 c9 w5;rw[<-i9]at b1 ⊢;clear i9
  all_goals
   have h3:=h2.below o;have e7:=e4;have o1:=h2.man.lt;have f9:=h2.acc.dm.dk;have g8:=H_ ((((Row.own b5).below o)).arg (B:=(w2:Nat)) o.size);have hA:∀a,A=some a->a.block∉X.foot:=fun a ha hm=>by
    obtain⟨A',c',e',_,_,O⟩:=ay b5;injection e' with e' _ _;have h7:=(O a (by rw[<-e'];exact ha)).1;have h8:=h1.acc.dm.dk.lt _ hm;omega
   have l3:K<=1099511627776:=by
    have e1:=(Row.own b5).xk;omega
   have l4:¬m=gb:=o_
   have i':gb∉[m] ++X.foot:=fun hm=>by
    rcases q_.1 hm with h5|h5
    ·exact l4 (c_.1 h5).symm
    ·have:=f9.lt _ h5
     omega
   have r5:=o.size;clear o e4 b9 h2
   cases a9 with
   |false=>
    have hh:R=(S,M,1):=k1.trans (if_neg s_);have hl:=H_ (kx1.mk_ hh h3);clear hh b1 h3 KC e7 g8 hA;go_wp2;go_ret;exact hl.out
   |true=>
   have l5:=k1.trans (if_pos rfl);have g':=e7 rfl;have p3:=k9.out rfl;have j0:=H_ l5;clear k1 l5 e7 k9;have h4:=(h3.below (ax b0_)).anew;have j2:BoxO W.drew 106 gb [z.log,.slice H I J,[z.floor],[z.cert],[z.at_],[z.lease]]:=b1;have b7:=h4.append (str M.name) (by rw[jy];unfold maxLen;omega) A K c e.rec_ l3 g8.out.drew hA;rw[kz]at b7;have b9:=H_ b7;have d0:=h3.man.cell 0;have d1:=h3.man.cell 1;simp only[Gs.cells,gE0,gE1]at d0 d1;have l6:=H_ j2;have l7:=H_ i';have j3:ix1 w2 W.drew H I J z.files:=g'.below (ax b0_);have a6:=H_ j3;have k4:Hid (R=if (S.append M.name e.rec_).2≠0 then ((S.append M.name e.rec_).1,M,(S.append M.name e.rec_).2) else if ((S.append M.name e.rec_).1.sync M.name).2≠0 then (((S.append M.name e.rec_).1.sync M.name).1,{ M with count:=M.count+1,v:=z,broken:=true },((S.append M.name e.rec_).1.sync M.name).2) else (((S.append M.name e.rec_).1.sync M.name).1,{ M with count:=M.count+1,v:=z },0)):=j0.out;have o4:=h4.man.lt;have r6:=g'.row.flen;clear b7 b5 hA l3 g8 b1 a7 k0 j2 i' KC g' j3 j0;generalize S.append M.name e.rec_=PP at *;obtain⟨S1,e1⟩:=PP;simp only at k4;go_wp2
   go_still_tail 9,(by kernel_rfl)
   change wpList _ _ _ _ _ (World.drew W);go_wp2_with fail;refine b9.mono ?_;rintro e6 w6 ⟨rfl,X6,O⟩
   by_cases q1:e1=0
   case neg=>
    have o6:=neq0 q1;have hh:=k4.out;rw[if_pos q1]at hh;have hl:=H_ (kx1.mk_ hh ((h3.below (ax b0_)).trans O));clear hh;go_wp2;go_ret;exact hl.out
   subst q1;have l8:Hid (R=if (S1.sync M.name).2≠0 then ((S1.sync M.name).1,{ M with count:=M.count+1,v:=z,broken:=true },(S1.sync M.name).2) else ((S1.sync M.name).1,{ M with count:=M.count+1,v:=z },0)):=k4.trans (if_neg s_);have a1:=l6.chg O.acc.c l7;have h':Row w6 w6 H I 2 (bz z.files):=by
    refine(nz O.acc.c a6.row l_ (fun j hj a ha hm=>?_)).up O.acc.c.size;have h7:=a6.low a ha
    rcases q_.1 hm with h5|h5
    ·have:=c_.1 h5
     omega
    ·have:=f9.lt _ h5
     omega
   have j5:Vrow w6 X6 m ⟨H,I,J⟩ z.files:=by
    refine⟨h',a6.nc,a6.cm,by simp only;omega,fun j hj a ha=>?_⟩;have h7:=a6.low a ha;have h8:=pv5 a6.row hj ha;refine⟨o_,fun hm=>?_⟩
    rcases O.acc.f _ hm with h9|h9
    ·have:=f9.lt _ h9
     omega
    ·omega
   have j6:∀a,(⟨H,I,J⟩:Sl).a=some a->(w:Nat)<=a.block:=fun a ha=>by
    have h7:=a6.low a ha;omega
   have j7:=H_ j6;clear j6;have x0:=a1.cell 0;have x1:=a1.cell 1;have x2:=a1.cell 2;have x3:=a1.cell 3;have x4:=a1.cell 4;have x5:=a1.cell 5;have d2:=O.man.cell 2;have d3:=O.man.cell 3;have d4:=O.man.cell 4;have d5:=O.man.cell 5;have d6:=O.man.cell 6;have d7:=O.man.cell 7;have d8:=O.man.cell 8;have f2:=O.man.free 2;have f3:=O.man.free 3;have f4:=O.man.free 4;have f5:=O.man.free 5;have f6:=O.man.free 6;have f7:=O.man.free 7;have f8:=O.man.free 8;simp only[Gs.cells,gE0,gE1]at x0 x1 x2 x3 x4 x5 d2 d3 d4 d5 d6 d7 d8;have l':GK (((((((w6.setCell (m,8) (.int .i64 ((M.count:Int)+1))).setCell (m,2) z.log).setCell (m,3) (.slice H I J)).setCell (m,4) (.int .u64 z.floor)).setCell (m,5) (.int .u64 z.cert)).setCell (m,6) (.int .u64 z.at_)).setCell (m,7) (.int .u64 z.lease)) m X.d { M with count:=M.count+1,v:=z } ⟨H,I,J⟩:=(((((((O.man.store 8 (.int .i64 ((M.count:Int)+1))).store 2 (.int .i64 z.log)).store 3 (.slice H I J)).store 4 (.int .u64 z.floor)).store 5 (.int .u64 z.cert)).store 6 (.int .u64 z.at_)).store 7 (.int .u64 z.lease));have i0:Chg [m] w6 (((((((w6.setCell (m,8) (.int .i64 ((M.count:Int)+1))).setCell (m,2) z.log).setCell (m,3) (.slice H I J)).setCell (m,4) (.int .u64 z.floor)).setCell (m,5) (.int .u64 z.cert)).setCell (m,6) (.int .u64 z.at_)).setCell (m,7) (.int .u64 z.lease)):=((((((((Chg.refl [m] w6).setCell _ (.inl s_)).setCell _ (.inl s_)).setCell _ (.inl s_)).setCell _ (.inl s_)).setCell _ (.inl s_)).setCell _ (.inl s_)).setCell _ (.inl s_));have h7:=H_ (((h3.below (ax b0_)).trans O).sq3 i0 l' (j5.turn i0));clear l' i0 a1 O b9 h4 h3 l6 l7 j5 h' a6;have D0:=h7.out.man.cell 0;have D1:=h7.out.man.cell 1;simp only[Gs.cells,gE0,gE1]at D0 D1;go_wp2;generalize (((((((w6.setCell (m,8) (.int .i64 ((M.count:Int)+1))).setCell (m,2) z.log).setCell (m,3) (.slice H I J)).setCell (m,4) (.int .u64 z.floor)).setCell (m,5) (.int .u64 z.cert)).setCell (m,6) (.int .u64 z.at_)).setCell (m,7) (.int .u64 z.lease))=V7 at *;clear x0 x1 x2 x3 x4 x5 d2 d3 d4 d5 d6 d7 d8 f2 f3 f4 f5 f6 f7 f8 d0 d1;have h8:=h7.out.below (ax b0_);have k5:=h8.sync (str M.name) (by rw[jy];unfold maxLen;omega);rw[kz]at k5;have o7:=H_ k5;clear k5 h8;generalize S1.sync M.name=PP at *;obtain⟨S2,e2⟩:=PP
   go_still_tail 8,(by kernel_rfl)
   change wpList _ _ _ _ _ (World.drew V7);go_wp2_with fail;refine o7.mono ?_;rintro e9 w9 ⟨rfl,X9,h9⟩
   by_cases q2:e2=0
   case neg=>
    have o6:=neq0 q2;have hh:R=(S2,{ M with count:=M.count+1,v:=z,broken:=true },e2):=l8.trans (if_pos q2);have HH:=H_ hh;clear hh;go_wp2_with fail;refine h9.pq5.mono ?_;rintro s0 s1 ⟨rfl,o9⟩;have hl:=H_ (kx1.mkN (P0:=P) HH.out o9 j7);go_wp2;go_ret;exact hl.out
   subst q2;have hl:=H_ (kx1.mkN (P0:=P) (l8.trans (if_neg s_)) h9 j7);go_wp2;go_ret;exact hl.out
end
section
variable {B n:Nat} {w w':World} {A:Option Addr}
def uw (F:List Nat) (w:World) (p:World->Prop):Prop:=∀w',Chg F w w'->p w'
theorem uw.now {F:List Nat} {p:World->Prop} (h:uw F w p):p w:=h w (Chg.refl F w)
theorem uw.step {F G:List Nat} {p:World->Prop} (h:uw F w p) (c:Chg F w w') (o:∀g∈G,g∈F\/(w:Nat)<=g):uw G w' p:=fun _ k=>h _ (c.trans k o)
theorem uw.below {F:List Nat} {p:World->Prop} (h:uw F w p) (c:Below w w w'):uw F w' p:=h.step (Chg.of_below c F) fun _ h=>.inl h
theorem uw.and {F:List Nat} {p q:World->Prop} (h:uw F w p) (k:uw F w q):uw F w fun w=>p w/\q w:=fun w' c=>⟨h w' c,k w' c⟩
theorem uw.mono {F:List Nat} {p q:World->Prop} (h:uw F w p) (k:∀w,p w->q w):uw F w q:=fun w' c=>k w' (h w' c)
end
theorem nx5 (K:Nat) (hF:∀args w,(callFunc K args).run prog w=.ok (.enter K args) w) (cap:Array Value) (P:List UInt8->Bool) (A:Option Addr) (n c:Nat) (l:List (List UInt8)) (w:World) (hn:n<=1000000) (U:Row w.heap.size w A n 1 (l.map Go.Proofs.encStr))
  (hK:∀x w1,x∈l->Below w.heap.size w w1->Calls prog K (#[.string (str x)] ++cap) w1 fun e w'=>e=.returned (.bool (P x))/\Below w1.heap.size w1 w'):
  Calls prog 139 #[.slice A n c,.func (.func K) #[] cap] w fun e w'=>e=.returned (.int .i64 (fidx P l))/\Below w.heap.size w w':=by
 have C:n=l.length:=by
  have:=U.len;simp at this;omega
 have HK:=H_ hK;have HF:=H_ hF;have I:=H_ C;clear hK hF C;go_enter func139,ntmps139;go_wp2
 go_loopw [8] (fun i wr=>∃k:Nat,k<=n/\i=.int .i64 k/\Hid ((l.take k).any P=false)/\Below w.heap.size w wr) (fun i _=>n - (intOf i).toNat)
 case atStart=>exact⟨0,A_ _,rfl,H_ rfl,Below.refl _ _⟩
 case round=>
  obtain⟨k,hk,rfl,J,o⟩:=hrel
  by_cases O:k < n
  ·obtain⟨a,H,rfl,a9,c0⟩:=(U.below o).enc O
   have ht:=mx1 (P:=P) H;have hs:=fun h1=>gy1 (P:=P) H J.out h1;have hc:=HK.out l[k] wr (w_ H) o;generalize l[k]=f at *;have HT:=H_ ht;have HS:=H_ hs;clear ht hs H;generalize hp:P f=p at hc;have HP:=H_ hp;clear hp;go_wp2_with fail;rw[HF.out,Oper.upon_enter];refine hc.mono ?_;rintro e w1 ⟨rfl,E⟩
   cases p with
   |true=>
    go_wp2;go_ret;exact⟨wq1 (HS.out HP).symm,az o E⟩
   |false=>
    go_wp2;go_roundw
    case rel=>exact⟨k+1,o_,by go_num,H_ (by rw[HT.out,J.out,HP.out];rfl),az o E⟩
    case measure=>simp[intOf];omega
  ·have z:fidx P l=-1:=av1 (by
    have Q:=J.out
    rwa [i_ (by have:=I.out;omega)]at Q)
   have HA:=H_ z;clear z;go_wp2;go_ret;exact⟨wq1 HA.symm,o⟩
theorem ww3 (K:Nat) (hF:∀args w,(callFunc K args).run prog w=.ok (.enter K args) w) (cap:Array Value) (P:List UInt8->Bool) (A:Option Addr) (n c:Nat) (l:List (List UInt8)) (w:World) (H:n<=1000000) (I:Row w.heap.size w A n 1 (l.map Go.Proofs.encStr))
  (C:∀x w1,x∈l->Below w.heap.size w w1->Calls prog K (#[.string (str x)] ++cap) w1 fun e w'=>e=.returned (.bool (P x))/\Below w1.heap.size w1 w'):
  Calls prog 76 #[.slice A n c,.func (.func K) #[] cap] w fun e w'=>e=.returned (.bool (l.any P))/\Below w.heap.size w w':=by
 have o:=xv1 P l;have E:=nx5 K hF cap P A n c l w H I C;clear C;generalize fidx P l=i at *;have z:=H_ o;clear o;go_enter func76,ntmps76;go_wp2_with fail;refine E.mono ?_;rintro e w1 ⟨rfl,J⟩;clear E;go_wp2;go_ret;exact⟨kw1 z,J⟩
theorem ey2 (x l:List UInt8):((str x).toList==l)=(x==l):=by
 rw[ByteArray.toList_eq];rfl
theorem cz5 (x k:List UInt8) (I:x.length<=1000) (J:k.length<=1000) (g:Nat) (w:World) (h:Env w) (O:w.cell? g=some (.string (str x))):
  Calls prog 144 #[.string (str k),g] w fun e w'=>e=.returned (.bool (Mn.number x k).isSome)/\Below w w w':=by
 have z:=pv1 (str x) (str k) (by rw[jy];omega) (by rw[jy];omega) w h;rw[kz,kz]at z;obtain⟨o,E⟩:=n_ (Mn.number x k);rw[<-E]at z ⊢;have C:=H_ z;clear z E h;unfold numV at C
 cases o<;>
 ·simp only at C
  go_enter func144,ntmps144;go_wp2_with fail;refine C.mono ?_;rintro e w1 ⟨rfl,H⟩;go_wp2;go_ret;exact⟨rfl,H⟩
theorem gw2 (x:List UInt8) (hx:x.length<=1000) (w:World) (h:Env w):
  Calls prog 80 #[.string (str x)] w fun e w'=>e=.returned (.bool (St.cx1 x))/\Below w w w':=by
 have Q:((str x).toList==[99,117,114,114,101,110,116])=(x==Mw.kCur):=ey2 x Mw.kCur;have U:((str x).toList==[99,117,114,114,101,110,116,46,116,109,112])=(x==Mw.gy):=ey2 x Mw.gy;have z:St.cx1 x=((x==Mw.kCur||x==Mw.gy)||[Mn.kLog,Mn.kTab,Mn.kMan].any fun k=>(Mn.number x k).isSome):=rfl;generalize St.cx1 x=R at *;have O:=b_ w (.cells #[.string (str x)] 9);have C:∀V e,Below w w V->V.cell? (w:Nat)=some (.string (str x))->BoxO V e ((w:Nat)+1) [.string (str Mn.kLog),.string (str Mn.kTab),.string (str Mn.kMan)]->
   Calls prog 76 #[.slice (some ⟨(w:Nat)+1,0,none⟩) 3 3,.func (.func 144) #[] #[(w:Nat)]] V fun e w'=>e=.returned (.bool ([Mn.kLog,Mn.kTab,Mn.kMan].any fun k=>(Mn.number x k).isSome))/\Below V.heap.size V w':=by
  intro V e hb hc E;have hr:Row V.heap.size V (some ⟨(w:Nat)+1,0,none⟩) 3 1 ([Mn.kLog,Mn.kTab,Mn.kMan].map Go.Proofs.encStr):=⟨rfl,fun j hj=>⟨_,rfl,E.lt,by
   have h1:=E.cell j;have e0:(⟨(w:Nat)+1,0,none⟩:Addr).add j=⟨(w:Nat)+1,j,none⟩:=by
    simp[Addr.add];omega
   rw[e0,h1];exact j_ hj⟩⟩
  refine ww3 144 (fun _ _=>rfl) _ _ _ 3 3 _ V o_ hr ?_;intro k w1 hk o;have a0:k.length<=1000:=by
   simp only[h_,cC_,or_false]at hk
   rcases hk with rfl|rfl|rfl<;>decide
  have a1:(w:Nat) < V.heap.size:=by have:=E.lt;omega
  exact cz5 x k hx a0 w w1 ((h.below hb).below o) ((o.cell (p:=⟨w,0,none⟩) a1).trans hc)
 have HC:=H_ C;clear C h
 cases o:(x==Mw.kCur) with
 |true=>
  rw[o]at Q z;have I:=H_ z;clear z U HC;go_enter func80,ntmps80;go_wp2;go_ret;exact⟨by rw[I.out];rfl,O⟩
 |false=>
  cases J:(x==Mw.gy) with
  |true=>
   rw[o]at Q z;rw[J]at U z;have I:=H_ z;clear z HC;go_enter func80,ntmps80;go_wp2;go_ret;exact⟨by rw[I.out];rfl,O⟩
  |false=>
   rw[o]at Q z;rw[J]at U z;generalize ([Mn.kLog,Mn.kTab,Mn.kMan].any fun k=>(Mn.number x k).isSome)=q at *;have I:=H_ z;clear z;go_enter func80,ntmps80;go_wp2_with fail;have H:=O.alloc O.size (.cells #[.string (str Mn.kLog),.string (str Mn.kTab),.string (str Mn.kMan)] 9);refine(HC.out _ 9 H s_ (by
    have:=BoxO.new (w.alloc (.cells #[.string (str x)] 9)) #[.string (str Mn.kLog),.string (str Mn.kTab),.string (str Mn.kMan)] 9;simpa using this)).mono ?_
   rintro e w1 ⟨rfl,o⟩;have a4:=az H o;clear H;go_wp2;go_ret;exact⟨by rw[I.out];rfl,a4⟩
theorem iw5 (X:Dw) (S:Sd) (x:List UInt8) (hx:x.length<=1000) (g:Nat) (w:World) (h:Dm w X S) (hc:w.cell? g=some (.pointer (some X.d))):
  Calls prog 78 #[.string (str x),g] w fun e w'=>e=.returned (.bool (St.cx1 x&&!St.isNone S x))/\Below w w w':=by
 have e1:((str x).toList==[99,117,114,114,101,110,116,46,116,109,112])=(x==Mw.gy):=ey2 x Mw.gy;have e2:((str x).toList==[109,97,110,46,49])=(x==St.jy4):=ey2 x St.jy4;have e3:((str x).toList==[108,111,103,46,49])=(x==St.jw):=ey2 x St.jw;have z:=(Acc.start (F:=[]) h).read (str x) (by rw[jy];unfold maxLen;omega);rw[kz]at z;have E:=fun W hb=>gw2 x hx W (h.env.below (w':=W) hb);have J:(St.cx1 x&&!St.isNone S x)=(St.cx1 x&&!((x==Mw.gy||x==St.jy4)||(x==St.jw&&(S.read x).1.length==0))):=rfl;obtain⟨R,H⟩:=n_ ((St.cx1 x&&!St.isNone S x));rw[<-H]at J ⊢;generalize St.cx1 x=o at *;obtain⟨n,hn⟩:=n_ ((S.read x).1.length);rw[<-hn]at z J;have e4:((n:Int)==0)=(n==0):=by
  rw[cF_];simp
 generalize (S.read x).2=er at *;have O:Hid (Calls prog 79 #[X.d,.string (str x)] w fun e w'=>∃A c,e=.returned (.tuple #[.slice A n c,(er:Int)])/\Below w w w'):=H_ (z.mono fun _ _ ⟨A,c,h1,_,h2⟩=>⟨A,c,h1,h2⟩);have Q:=H_ E;clear z E h hn H;generalize (x==Mw.gy)=b1 at *;generalize (x==St.jy4)=b2 at *;generalize (x==St.jw)=b3 at *;generalize (n==0)=b4 at *;have HR:=H_ J;clear J
 cases o<;>cases b1<;>cases b2<;>cases b3<;>cases b4
 all_goals
 ·go_enter func78,ntmps78
  go_wp2_with fail;refine O.mono ?_;rintro e w1 ⟨A,c,rfl,C⟩;go_wp2_with fail;refine(Q.out _ C).mono ?_;rintro e w2 ⟨rfl,I⟩;have U:=az C I;clear C I;go_wp2;go_ret;exact⟨by rw[HR.out];rfl,U⟩
theorem ay3 (X:Dw) (S:Sd) (w:World) (h:Dm w X S):
  Calls prog 34 #[X.d] w fun e w'=>e=.returned (.bool (St.dv3 S))/\Below w w w':=by
 have I:=b_ w (.cells #[X.d] 23);have hp:(w.alloc (.cells #[X.d] 23)).cell? (w:Nat)=some (.pointer (some X.d)):=by simp
 have E:(w:Nat) < (w.alloc (.cells #[X.d] 23)).heap.size:=by simp
 obtain⟨W,J⟩:=n_ (w.alloc (.cells #[X.d] 23));rw[<-J]at I hp E;have h1:=h.below I;have H:=(Acc.start (F:=[]) h1).list;have hR:St.dv3 S= !(S.list.any fun s=>St.cx1 s&&!St.isNone S s):=rfl;generalize St.dv3 S=R at *;have a7:=pw1 h.wf;have O:=kk1 h.wf;have Q:=H_ H;have HR:=H_ hR;have HV:=H_ J;have H1:=H_ h1;have HP:=H_ hp;clear H hR h h1 J;generalize hq:(S.list.any fun s=>St.cx1 s&&!St.isNone S s)=q at *;have HQ:=H_ hq;clear hq;go_enter func34,ntmps34;go_wp2_with fail;rw[<-HV.out];refine Q.mono ?_;rintro e w1 ⟨A,c,rfl,ho,z⟩;have C:=ww3 78 (fun _ _=>rfl) #[(w:Nat)] (fun s=>St.cx1 s&&!St.isNone S s) A S.list.length c S.list w1 o_ (Row.own ho) (fun x w2 hx o=>iw5 X S x (by have:=ey1 (O x hx);omega) w w2 (H1.below (az z o)) (((az z o).cell (p:=⟨w,0,none⟩) E).trans HP));rw[HQ.out]at C;have U:=H_ C;clear C ho;go_wp2_with fail;refine U.mono ?_;rintro e w2 ⟨rfl,o⟩;have a0:=az I (az z o);clear z o;go_wp2;go_ret;exact⟨by rw[HR.out];rfl,a0⟩
section
open Go.Maps
theorem xj3 (nb:Nat) (M:Nm) (i:Nat) (p:Addr) (w:World) (hM:uy w nb M.length M) (hp:w.cell? p=some (.int .i64 i)):
  Calls prog 72 #[.map (some nb),.pointer (some p)] w fun e w'=>e=.returned (.bool (M.any fun q=>decide (q.2=i)))/\Below w w w':=by
 have b1:=S_ w _ hp;obtain⟨es,o,d4,d5⟩:=hM.entries nz1;have b2:es=M.map Nm.lit1:=by
  unfold Nm.enc at o;injection o with o;exact o.symm
 clear o;have b3:=H_ b2;clear b2;obtain⟨m,hm⟩:=n_ (Nm.enc M);have a1:w.ownsMap prog 9 (plainElem (H:=Unit) prog 3) nb M.length m:=by rw[hm];exact hM
 have a6:=H_ hm;clear hm hM;obtain⟨R,hR⟩:=n_ (M.any fun q=>decide (q.2=i));rw[<-hR];have HR:=H_ hR;clear hR;go_enter func72,ntmps72;go_wp2_with (first
  |(at_range;refine wpList_range_own _ rfl _ 45 rfl 9 3 nz1 underlying45 _ nb _ m rfl a1 ?_;intro w0 a2 b5 d8)
  |go_in)
 go_frame
 have d9:Below w w w0:=b0_.grown b5 l_ (fun k hk=>by cases hk)
 go_loopw [3] (fun s wr=>∃(left:Lit->Bool) (a7:Nat),Hid (∀q∈M,left (.string q.1)=false->q.2≠i)/\wr.ranges prog 9 (plainElem (H:=Unit) prog 3) nb w M.length m left a7/\Below w w wr) (fun _ wr=>wr.rangeLeft nb w)
 case atStart=>
  refine⟨_,_,H_ (fun q hq hl=>?_),a2,d9⟩;exfalso;rw[show m=_ from a6.out]at hl;have h1:Maps.has (Nm.enc M) (.string q.1)=true:=by
   show (M.map Nm.lit1).any (fun p=>p.1.sameKey (.string q.1))=true
   rw[aF_];exact⟨_,aP_.2 ⟨q,hq,rfl⟩,WideAt.sameKey_self (d5 (Nm.lit1 q) (by rw[show es=_ from b3.out];exact aP_.2 ⟨q,hq,rfl⟩))⟩
  rw[h1]at hl
  cases hl
 case round=>
  obtain⟨left,a7,I,O,hb⟩:=hrel;go_wp2_with (first
   |(at_next;refine wpList_next_ranges _ rfl _ rfl 9 nz1 _ Value.string (Value.int .i64) ?invK ?invV nb w _ m left a7 rfl O ?hDone ?hMore)
   |go_in)
  case invK=>exact fun key kl hk=>by obtain⟨s,rfl,_⟩:=aj1 hk;exact⟨s,rfl⟩
  case invV=>exact fun v y hv=>by obtain⟨c,rfl,_⟩:=plainElem_int_inv underlying3 hv;exact⟨c,rfl⟩
  case hDone=>
   intro _ e2;have hf:R=false:=by
    rw[show R=_ from HR.out,ab_];intro q hq;have:=I.out q hq (e2 _);simpa using this
   subst hf;clear O I;go_wp2;go_ret;exact⟨rfl,hb⟩
  case hMore=>
   intro x c kl y yp w1 b6 b7 e4 hv Q C b8 b9 e5 f3;obtain⟨s,e6,b'⟩:=aj1 b7
   cases e6
   have a':Below w w w1:=hb.grown b9 hb.size (fun j hj=>by cases hj;exact B_ _);have f4:w1.cell? p=some (.int .i64 i):=(a'.cell (p:=p) b1).trans hp;have E:Maps.has m kl=true:=Maps.has_true_of_atKey Q;subst b';unfold key at E Q e4 C;obtain⟨k,U⟩:∃k,M.get x.data.toList=some k:=by
    rw[show m=_ from a6.out,Nm.dx2]at E;exact cu_.1 E
   have c9:=fun z=>Nm.ky3 M x.data.toList z U;have hy:y=.lit (.int .i64 (k:Int)):=by rw[<-Q .nil,show m=_ from a6.out,c9]
   obtain⟨c',e7,d0,_⟩:=plainElem_int_inv underlying3 hv
   cases e7
   have e9:c=(k:Int):=by
    have h2:=congrArg Prod.fst d0;simp only at h2;rw[h2]at hy;injection hy with hy;injection hy with _ hy
   subst e9;have J:=Nm.get_mem U;have HG:=H_ U;clear Q c9 hv d0 hy U E hp a2 a1 b5 d8 b9 e5
   by_cases a0:k=i
   ·have hf:R=true:=by
     rw[show R=_ from HR.out,aF_];exact⟨_,J,by simp[a0]⟩
    subst hf;subst a0;clear J I O C b8;go_wp2;go_ret;exact⟨rfl,a'⟩
   ·have e1:((k:Int)==(i:Int))=false:=by rw[beq_eq_false_iff_ne];omega
    have a4:∀q∈M,(left (.string q.1) &&!(Lit.string q.1).sameKey (.string x.data.toList))=false->q.2≠i:=fun q hq hl=>by
     cases h1:left (.string q.1) with
     |false=>exact I.out q hq h1
     |true=>
      rw[h1]at hl;have h2:(q.1==x.data.toList)=true:=by
       have e:(Lit.string q.1).sameKey (.string x.data.toList)=(q.1==x.data.toList):=rfl;rw[e]at hl;simpa using hl
      have h3:q.1=x.data.toList:=by simpa using h2
      have h4:Nm.get M q.1=some k:=by rw[h3];exact HG
      have e':Nm.Apart M:=by
       have a5:=d4;rw[show es=_ from b3.out,cs_]at a5;exact a5.imp (fun {a b} f0 e=>f0 (by simp only[Nm.lit1,e]))
      rw[Nm.zk1 e' hq]at h4;injection h4 with h4;rw[h4];exact a0
    have f1:=H_ a4;clear a4 I a0 J;go_wp2;go_roundw
    case rel=>exact⟨_,b6,f1,C,a'⟩
    case measure=>rw[C.left_eq,O.left_eq];exact b8
theorem lw1 (t:Tn):(lq t).length=4:=rfl
theorem Row.turn {B n:Nat} {w:World} {A:Option Addr} {ts:List Tn} (h:Row B w A n 4 (ts.flatMap lq)) {k:Nat} (U:k < n):∃a,∃C:k < ts.length,A=some a/\a.block < B/\w.cell? (a.add (k *4))=some (.int .i64 ((ts[k]).kind:Int))/\w.cell? ⟨(a.add (k *4)).block,(a.add (k *4)).off+1,none⟩=some (.int .i64 ((ts[k]).file:Int))/\
  w.cell? ⟨(a.add (k *4)).block,(a.add (k *4)).off+2,none⟩=some (.string (str (ts[k]).a))/\w.cell? ⟨(a.add (k *4)).block,(a.add (k *4)).off+3,none⟩=some (.string (str (ts[k]).b)):=by
 have z:=h.len;rw[dv2 lq 4 lw1]at z;have C:k < ts.length:=o_
 have g:=fun j (hj:j < 4)=>kv1 lq 4 lw1 ts k j C hj;obtain⟨a,I,J,c0⟩:=fx1 h (g 0 o_);have O:∀j v,j < 4->(lq ts[k])[j]?=some v->w.cell? (a.add (k *4+j))=some v:=fun j v hj E=>by
  obtain⟨a',o,_,c⟩:=fx1 h ((g j hj).trans E);rw[I]at o;injection o with o;subst o;exact c
 have H:∀j v,0 < j->j < 4->(lq ts[k])[j]?=some v->w.cell? ⟨(a.add (k *4)).block,(a.add (k *4)).off+j,none⟩=some v:=fun j v Q hj E=>by
  rw[<-sj4 a (k *4) Q];exact O j v hj E
 exact⟨a,C,I,J,c0,H 1 _ o_ o_ rfl,H 2 _ o_ o_ rfl,H 3 _ o_ o_ rfl⟩
def Tn.makes (i:Nat) (t:Tn):Bool:=decide (t.kind=1) &&decide (t.file=i)
theorem dv5 (t:Tn) (i:Nat) (p:Addr) (w:World) (C:w.cell? p=some (.int .i64 i)):
  Calls prog 74 #[.agg #[(t.kind:Int),(t.file:Int),.string (str t.a),.string (str t.b)],.pointer (some p)] w fun e w'=>e=.returned (.bool (t.makes i))/\Below w w w':=by
 have E:=S_ w _ C;have o:=b_ w (.cells #[(t.kind:Int),(t.file:Int),.string (str t.a),.string (str t.b)] 81);have J:(w.alloc (.cells #[(t.kind:Int),(t.file:Int),.string (str t.a),.string (str t.b)] 81)).cell? p=some (.int .i64 i):=(o.cell (p:=p) E).trans C;obtain⟨R,z⟩:=n_ (t.makes i);rw[<-z];have I:=H_ o
 by_cases h1:t.kind=1
 ·have O:((t.kind:Int)==1)=true:=by rw[beq_iff_eq];omega
  by_cases h2:t.file=i
  ·have Q:((t.file:Int)==(i:Int))=true:=by rw[beq_iff_eq];omega
   have H:R=true:=by rw[z];simp[Tn.makes,h1,h2]
   subst H;clear z h1 h2 C o;go_enter func74,ntmps74;go_wp2;go_ret;exact⟨rfl,I⟩
  ·have Q:((t.file:Int)==(i:Int))=false:=by rw[beq_eq_false_iff_ne];omega
   have H:R=false:=by rw[z];simp[Tn.makes,h2]
   subst H;clear z h1 h2 C o;go_enter func74,ntmps74;go_wp2;go_ret;exact⟨rfl,I⟩
 ·have O:((t.kind:Int)==1)=false:=by rw[beq_eq_false_iff_ne];omega
  have H:R=false:=by rw[z];simp[Tn.makes,h1]
  subst H;clear z h1 C o;go_enter func74,ntmps74;go_wp2;go_ret;exact⟨rfl,I⟩
theorem by5 (i:Nat) (p:Addr) (A:Option Addr) (n c:Nat) (ts:List Tn) (w:World) (hn:n<=4611686018427387904) (hr:Row w w A n 4 (ts.flatMap lq)) (z:w.cell? p=some (.int .i64 i)):
  Calls prog 73 #[.slice A n c,.func (.func 74) #[] #[.pointer (some p)]] w fun e w'=>e=.returned (.bool (ts.any (Tn.makes i)))/\Below w w w':=by
 have J:=S_ w _ z;have C:Calls prog 138 #[.slice A n c,.func (.func 74) #[] #[.pointer (some p)]] w fun e w'=>e=.returned (.int .i64 (fidx (Tn.makes i) ts))/\Below w w w':=by
  obtain⟨P,U⟩:∃P:Tn->Bool,P=Tn.makes i:=⟨_,rfl⟩;have hK:∀t w1,Below w w w1->Calls prog 74 #[.agg #[.int .i64 t.kind,.int .i64 t.file,.string (str t.a),.string (str t.b)],.pointer (some p)] w1 fun e w'=>e=.returned (.bool (P t))/\Below w1.heap.size w1 w':=fun t w1 H=>by
   rw[U];exact dv5 t i p w1 ((H.cell (p:=p) J).trans z)
  rw[<-U];have a':ts.length=n:=by
   have:=hr.len;rw[dv2 lq 4 lw1]at this;omega
  have HK:=H_ hK;clear hK U;go_enter func138,ntmps138;go_wp2
  go_loopw [8] (fun i wr=>∃k:Nat,k<=n/\i=.int .i64 k/\Hid ((ts.take k).any P=false)/\Below w w wr) (fun i _=>n - (intOf i).toNat)
  case atStart=>exact⟨0,A_ _,rfl,H_ rfl,Below.refl _ _⟩
  case round=>
   obtain⟨k,hk,rfl,H,o⟩:=hrel
   by_cases a0:k < n
   ·obtain⟨a,hl,rfl,b1,c0,c1,c2,c3⟩:=(hr.below o).turn a0
    have ht:=mx1 (P:=P) hl;have hs:=fun h1=>gy1 (P:=P) hl H.out h1;generalize ts[k]=f at *;have HT:=H_ ht;have HS:=H_ hs;clear ht hs hl;have Q:=HK.out f wr o
    cases z:P f with
    |true=>
     rw[z]at Q;have HP:=H_ z;clear z;go_wp2_with fail;refine Q.mono ?_;rintro e w1 ⟨rfl,I⟩;go_wp2;go_ret;exact⟨wq1 (HS.out HP).symm,az o I⟩
    |false=>
     rw[z]at Q;have HP:=H_ z;clear z;go_wp2_with fail;refine Q.mono ?_;rintro e w1 ⟨rfl,I⟩;go_wp2;go_roundw
     case rel=>exact⟨k+1,o_,by go_num,H_ (by rw[HT.out,H.out,HP.out];rfl),az o I⟩
     case measure=>simp[intOf];omega
   ·have E:fidx P ts=-1:=av1 (by
     have a4:=H.out
     rwa [i_ o_]at a4)
    have HA:=H_ E;clear E;go_wp2;go_ret;exact⟨wq1 HA.symm,o⟩
 have O:=xv1 (Tn.makes i) ts;generalize fidx (Tn.makes i) ts=j at *;have a5:=H_ O;clear O;go_enter func73,ntmps73;go_wp2_with fail;refine C.mono ?_;rintro e w1 ⟨rfl,H⟩;clear C;go_wp2;go_ret;exact⟨kw1 a5,H⟩
theorem hj5 (S:Sd) (k:Nat):(List.range (k+1)).filter S.dx1=(List.range k).filter S.dx1++if S.dx1 k then [k] else []:=by
 rw[List.range_succ,bZ_]
 congr 1
 by_cases h:S.dx1 k<;>simp[h]
def tv1 (l:List Nat):List Value:=l.map fun(n:Nat)=>.int .i64 n
theorem tj5 (X:Dw) (S:Sd) (w:World) (h:DK w X S) (a2:S.load<=1099511627776):
  Calls prog 30 #[X.d] w fun e w'=>∃A c,e=.returned (.slice A S.led.length c)/\S.led.length<=c/\c<=maxLen/\w'.ownsRow w 3 1 (.slice A S.led.length c) S.led.length (tv1 S.led)/\Below w w w':=by
 obtain⟨fA,fc,d8,h9,h',_⟩:=ay h.files;obtain⟨tA,tc,c9,i0,i1,_⟩:=ay h.turns;have hF:S.files.length<=1099511627776/\S.turns.length<=1099511627776:=by unfold Sd.load at a2;omega
 have hcells:∀W,Below w w W->W.cell? (X.d,1)=some (.slice fA S.files.length fc)/\W.cell? (X.d,2)=some (.map (some X.nb))/\W.cell? (X.d,3)=some (.map (some X.lb))/\W.cell? (X.d,4)=some (.slice tA S.turns.length tc):=fun W hb=>by
  have hB:=(h.below hb).box;have d1:=hB.cell 1;have d2:=hB.cell 2;have d3:=hB.cell 3;have d4:=hB.cell 4;simp only[Dw.cells,gE0,gE1]at d1 d2 d3 d4;rw[d8]at d1;rw[c9]at d4;exact⟨d1,d2,d3,d4⟩
 have U:=fun(i:Nat) (p:Addr) W (hb:Below w w W) (hp:W.cell? p=some (.int .i64 i))=>by5 i p tA S.turns.length tc S.turns W o_ (by have:=(h.below hb).turns;rw[c9]at this;exact Row.own this) hp;have a0:=fun(i:Nat) (p:Addr) W (hb:Below w w W) (hp:W.cell? p=some (.int .i64 i))=>xj3 X.nb S.names i p W (h.below hb).names hp;have a1:=fun(i:Nat) (p:Addr) W (hb:Below w w W) (hp:W.cell? p=some (.int .i64 i))=>xj3 X.lb S.lasted i p W (h.below hb).lasted hp;have HC:=H_ hcells;have e7:=H_ U;have e9:=H_ a0;have e':=H_ a1;have h0:=h.box.lt;obtain⟨ii,f0,f1,f2,f3⟩:=info_parts by2;obtain⟨d1,d2,d3,d4⟩:=hcells w b0_;clear hcells U a0 a1 d8 c9 h a2 d2 d3 d4;go_enter func30,ntmps30;go_wp2
 go_loopw [3,12] (fun o i wr=>∃(k:Nat) (oA:Option Addr) (oc:Nat),k<=S.files.length/\i=.int .i64 k/\o=.slice oA ((List.range k).filter S.dx1).length oc/\((List.range k).filter S.dx1).length<=oc/\oc<=maxLen/\wr.ownsRow w 3 1 (.slice oA ((List.range k).filter S.dx1).length oc) ((List.range k).filter S.dx1).length (tv1 ((List.range k).filter S.dx1))/\Below w w wr) (fun _ i _=>S.files.length - (intOf i).toNat)
 case atStart=>exact⟨0,none,0,A_ _,rfl,rfl,B_ _,A_ _,(G_ w w 3 1:w.ownsRow _ _ _ (.slice none 0 0) 0 []),Below.refl _ _⟩
 case round=>
  obtain⟨k,oA,oc,hk,rfl,rfl,d0,d9,O,hb⟩:=hrel
  by_cases i3:k < S.files.length
  ·have E:=hj5 S k
   obtain⟨L,hL⟩:=n_ ((List.range k).filter S.dx1);have i4:L.length<=k:=by rw[hL];have:=aw_ S.dx1 (List.range k);simpa using this
   rw[<-hL]at O E d0;have b2:=hb.alloc hb.size (.cells #[(k:Int)] 3);have hp:(wr.alloc (.cells #[(k:Int)] 3)).cell? (wr:Nat)=some (.int .i64 k):=by simp
   have a5:=own_below O (b_ wr (.cells #[(k:Int)] 3));have i5:=H_ hL;have e0:=H_ E;obtain⟨b3,b5,b6,b7⟩:=HC.out _ b2;have U:=e7.out k _ _ b2 hp;have a6:(wr:Nat) < (wr.alloc (.cells #[(k:Int)] 3)).heap.size:=by simp
   rw[<-show L=_ from hL];obtain⟨made,H⟩:∃b,b=S.turns.any (Tn.makes k):=⟨_,rfl⟩;rw[<-H]at U;have e1:=H_ H;clear hL E O H;go_wp2_with fail;refine U.mono ?_;rintro e w2 ⟨rfl,a7⟩;have Q:=az b2 a7;have b8:=(a7.cell (p:=⟨wr,0,none⟩) a6).trans hp;have a8:=own_below a5 a7;have b9:(wr:Nat) < (w2:Nat):=L_ a6 a7.size;clear U a5 b3 b5 b6 b7 b2 hp a7 a6;go_upto_region 7 with (fail)
   go_cut [38] from 22 to 38 (fun t wx=>t=.bool (S.dx1 k)/\Below w2 w2 wx)
   case first=>
    obtain⟨b3,b5,b6,b7⟩:=HC.out _ Q;have a0:=e9.out k _ _ Q b8
    cases made with
    |true=>
     have hm:S.turns.any (Tn.makes k)=true:=e1.symm;have he:S.dx1 k=true:=by
      unfold Sd.dx1;rw[show (S.turns.any fun t=>decide (t.kind=1) &&decide (t.file=k))=true from hm];rfl
     have a9:=H_ he;clear he hm a0;go_wp2
     go_meet
     exact⟨by rw[a9.out],Below.refl _ _⟩
    |false=>
     have hm:S.turns.any (Tn.makes k)=false:=e1.symm;have f5:=H_ hm;go_wp2_with fail;refine a0.mono ?_;rintro e w3 ⟨rfl,C⟩;have z:=az Q C;have e2:=(C.cell (p:=⟨wr,0,none⟩) b9).trans b8;have a1:=e'.out k _ _ z e2;clear a0 hm b3 b5 b6 b7;obtain⟨b3,b5,b6,b7⟩:=HC.out _ z
     cases hm:S.names.any (fun q=>decide (q.2=k)) with
     |true=>
      have he:S.dx1 k=true:=by
       unfold Sd.dx1;rw[hm];simp
      have a9:=H_ he;clear he hm a1;go_wp2
      go_meet
      exact⟨by rw[a9.out],C⟩
     |false=>
      have f6:=H_ hm;clear hm;have he:S.dx1 k=S.lasted.any (fun q=>decide (q.2=k)):=by
       unfold Sd.dx1;rw[f6.out,show (S.turns.any fun t=>decide (t.kind=1) &&decide (t.file=k))=false from f5.out];rfl
      have a9:=H_ he;clear he;go_wp2_with fail;refine a1.mono ?_;rintro e w4 ⟨rfl,f7⟩;clear a1;go_wp2
      go_meet
      exact⟨by rw[a9.out],az C f7⟩
   case rest=>
    obtain⟨rfl,C⟩:=hcut;have z:=az Q C;have e2:=(C.cell (p:=⟨wr,0,none⟩) b9).trans b8;have a':=own_below a8 C;clear a8 b8
    cases hq:S.dx1 k with
    |true=>
     have I:=e0.out;rw[hq,if_pos rfl]at I;have J:=H_ I;have f8:=Row.new wc #[(k:Int)] 3 (n:=1) (size:=1) rfl;clear I hq;go_wp2_with (at_builtin;refine iq ?_);refine gz (xw rfl (.tmp 39) (.tmp 41) _ rfl (w:Nat) 3 ii _ 1 8 underlying73 f0 f1 f2 f3 rfl o_ w (z.alloc z.size _) (g_ z.size s_) (.slice oA L.length oc) L.length (tv1 L) rfl (own_below a' (b_ _ _)) ((wc:Nat)+1) _ 1 1 o_ [(k:Int)] rfl f8 (by intro u hu;simp at hu;subst hu;rfl) (L.length+1) (tv1 (L++[k])) rfl (by simp[tv1]) (by unfold maxLen;omega) o_ ?_);intro A3 c3 w5 d5 e3 i7 f9 g4 i8;have d6:(L++[k]).length=L.length+1:=by simp
     go_wp2;go_roundw
     case rel=>exact⟨k+1,A3,c3,o_,by go_num,by rw[show (List.range (k+1)).filter S.dx1=_ from J.out,d6],by rw[show (List.range (k+1)).filter S.dx1=_ from J.out,d6];exact f9,g4,by rw[show (List.range (k+1)).filter S.dx1=_ from J.out,d6];exact d5,e3⟩
     case measure=>simp[intOf];omega
    |false=>
     have I:=e0.out;rw[hq,if_neg (by decide),aM_]at I;have J:=H_ I;clear I hq;go_wp2;go_roundw
     case rel=>exact⟨k+1,oA,oc,o_,by go_num,by rw[show (List.range (k+1)).filter S.dx1=_ from J.out],by rw[show (List.range (k+1)).filter S.dx1=_ from J.out];exact d0,d9,by rw[show (List.range (k+1)).filter S.dx1=_ from J.out];exact a',z⟩
     case measure=>simp[intOf];omega
  ·obtain rfl:k=S.files.length:=o_
   go_wp2;go_ret;exact⟨oA,oc,rfl,d0,d9,O,hb⟩
structure Kp (Z:List Nat) (B:Nat) (w:World) (g:Nat) (ks:List Int) (A:Option Addr) (n c:Nat):Prop where
 box:BoxO w 73 g [.slice A n c]
 row:Row B w A n 1 (pz ks)
 nc:n<=c
 cm:c<=maxLen
 off:∀j,j < (pz ks).length->∀a,A=some a->a.block∉Z
theorem Kp.chg {Z:List Nat} {B g n c:Nat} {w w':World} {ks:List Int} {A:Option Addr} {F:List Nat} (h:Kp Z B w g ks A n c) (k:Chg F w w') (z:B<=(w:Nat)) (C:g∉F) (hF:∀b∈F,B<=b\/b∈Z):Kp Z B w' g ks A n c:=
 ⟨h.box.chg k C,nz k h.row z (fun j hj a o E=>by
  have h1:=pv5 h.row hj o
  rcases hF _ E with h2|h2
  ·omega
  ·exact h.off j hj a o h2),h.nc,h.cm,h.off⟩
theorem Kp.below {Z:List Nat} {B g n c:Nat} {w w':World} {ks:List Int} {A:Option Addr} (h:Kp Z B w g ks A n c) (k:Below w w w') (o:B<=(w:Nat)):Kp Z B w' g ks A n c:=h.chg (Chg.of_below k []) o s_ s_
theorem next_any (Z:List Nat) (B g:Nat) (ks:List Int) (nn:Int) (w:World) (A:Option Addr) (n c:Nat) (h:Kp Z B w g ks A n c) (hB:B<=g):
  Calls prog 29 #[nn,g] w fun e w'=>e=.returned (.int .i64 (Sd.next ks nn).1)/\Chg [g] w w'/\∃A' n' c',Kp Z B w' g (Sd.next ks nn).2 A' n' c':=by
 have hl:ks.length=n:=h.row.ilen;have c0:=h.box.c0;have f0:=h.box.free 0;have a7:=h.cm;have b3:=h.nc;unfold maxLen at a7
 cases ks with
 |nil=>
  have I:n=0:=by simpa using hl.symm
  subst I;have H:=H_ h;clear hl h f0;go_enter func29,ntmps29;go_wp2;go_ret;exact⟨rfl,Chg.refl _ _,A,0,c,H⟩
 |cons x r=>
  simp only[r_]at hl;have I:0 < n:=o_
  obtain⟨a,v,rfl,b5,hv,o⟩:=h.row.at1 I;have a8:v=.int .i64 x:=by simpa [pz] using hv.symm
  subst a8;have b6:a.block≠g:=o_
  have a4:w.cell? a=some (.int .i64 x):=by simpa [Addr.add] using o
  have z:=fun A' (hA:1 < n->A'=(some a).map (·.add (1 *1)))=>h.row.cut (k:=1) (m:=n) o_ (B_ n) (A':=A') hA;have O:pz r=((pz (x::r)).drop (1 *1)).take ((n - 1)*1):=by
   rw[i_ (by simp[pz];omega)];simp[pz]
  rw[<-O]at z;have C:=h.off;have J:=fun A'=>h.box.store 0 (.slice A' (n - 1) (c - 1));simp only[T_]at J;have E:∀A':Option Addr,(1 < n->A'=(some a).map (·.add (1 *1)))->Kp Z B (w.setCell g (.slice A' (n - 1) (c - 1))) g r A' (n - 1) (c - 1):=fun A' hA=>⟨J A',(z A' hA).setCell hB _,o_,by unfold maxLen;omega,fun j hj a' ha=>by
   have h1:1 < n:=by simp[pz]at hj;omega
   rw[hA h1]at ha;injection ha with ha;subst ha;rw[add_block];exact C 0 (by simp[pz]) a rfl⟩
  have HF:=H_ E;have Q:∀v,Chg [g] w (w.setCell g v):=fun v=>tq w ⟨g,0,none⟩ v;have U:=H_ Q;have b7:((n:Int)==0)=false:=by rw[beq_eq_false_iff_ne];omega
  obtain⟨n1,b8⟩:∃n1:Nat,n1=n - 1:=⟨_,rfl⟩;clear z O J E Q hl hv o h C
  by_cases a0:c=1
  ·subst a0
   have a1:n=1:=o_
   subst a1;go_enter func29,ntmps29;go_wp2;go_ret;exact⟨rfl,U.out _,_,_,_,HF.out _ (fun h=>absurd h (by decide))⟩
  ·have b9:1 < c:=o_
   have b':(1:Int) < (c:Int):=o_
   have c9:(1:Int)<=(n:Int):=o_
   clear a0;go_enter func29,ntmps29;go_wp2;go_ret;exact⟨rfl,U.out _,_,_,_,HF.out _ (fun _=>rfl)⟩
theorem bv5 (a:Int):bits .and .i64 a 1=a % 2:=by
 have e:bits .and .i64 a 1=IntKind.i64.wrap ((BitVec.ofInt 64 a&&&BitVec.ofInt 64 1).toNat:Int):=rfl;have h1:(BitVec.ofInt 64 (1:Int)).toNat=1:=by decide
 rw[e,BitVec.toNat_and,h1,Nat.and_one_is_mod,BitVec.toNat_ofInt,IntKind.wrap_i64];omega
theorem ez4 {t:Tn} {r:List Tn} {m:Nm} {ks:List Int}:Sd.doTurns (t::r) m ks=Sd.doTurns r (if (Sd.next ks 0).1 % 2=0 then t.go m else m) (Sd.next ks 0).2:=rfl
theorem DK.qz4 {w w':World} {X:Dw} {S:Sd} {n:Nat} {M:Nm} (h:DK w X S) (o:uy w' X.lb n M) (c:Chg [X.lb] w w'):DK w' X { S with lasted:=M }:=by
 have a:=h.apart;exact⟨h.box.chg c (by simpa using a.d_lb),xy h.names c (by simpa using a.nb_lb),kq2 o,jv h.files c (fun g e=>by simpa using (a.fv g e).2.2.1),fun i hi h2=>(h.file i hi h2).chg c (fun g e=>by simpa using (a.ps _ (w_ h2) g e).2.2.1),
  jv h.turns c (fun g e=>by simpa using (a.tv g e).2.2.1),h.nodup⟩
theorem lj1 {w:World} {b n:Nat} {M:Nm} (h:uy w b n M):Nm.Apart M:=by
 obtain⟨es,o,z,_⟩:=h.entries nz1;have C:es=M.map Nm.lit1:=by
  unfold Nm.enc at o;injection o with o;exact o.symm
 rw[C,cs_]at z;exact z.imp (fun {a b} E e=>E (by simp only[Nm.lit1,e]))
def Fok (n:Nat) (fs:List (List UInt8×Nat)):Prop:=fs.length=n/\∀(i:Nat) (f:List UInt8×Nat),fs[i]?=some f->f.2<=f.1.length/\f.1.length<=250000
theorem rx2 (n:Nat) (x:Int):Sd.kept n x<=n:=by
 unfold Sd.kept;have h1:=cE_ x (show ((n:Int)+1)≠0 by omega);have h2:=cl_ x (show (0:Int) < (n:Int)+1 by omega);omega
theorem ck4 (n:Nat) (x:Int):(x.tmod ((n:Int)+1)=(Sd.kept n x:Int))\/(x.tmod ((n:Int)+1) < 0/\-(n:Int)<=x.tmod ((n:Int)+1)/\x.tmod ((n:Int)+1)+((n:Int)+1)=(Sd.kept n x:Int)):=by
 unfold Sd.kept;have h1:=cE_ x (show ((n:Int)+1)≠0 by omega);have h2:=cl_ x (show (0:Int) < (n:Int)+1 by omega);rw[Int.toNat_of_nonneg h1]
 rcases Int.lt_or_le x 0 with z|z
 ·have H:=Int.mul_tdiv_add_tmod x ((n:Int)+1)
  have C:x % ((n:Int)+1)=(x.tmod ((n:Int)+1)) % ((n:Int)+1):=by
   conv=>lhs;rw[<-H,Int.add_comm,Int.add_mul_emod_self_left]
  have I:x.tmod ((n:Int)+1)=-((-x).tmod ((n:Int)+1)):=by rw[Int.neg_tmod,Int.neg_neg]
  have J:=Int.tmod_nonneg ((n:Int)+1) (show 0<=-x by omega);have O:=Int.tmod_lt_of_pos (-x) (show (0:Int) < (n:Int)+1 by omega);generalize x.tmod ((n:Int)+1)=t at *;generalize (-x).tmod ((n:Int)+1)=u at *
  rcases Int.lt_or_le t 0 with o|o
  ·right
   refine⟨o,o_,?_⟩;have E:(t+((n:Int)+1)) % ((n:Int)+1)=t % ((n:Int)+1):=by simp
   rw[ct_ o_ o_]at E;rw[C,<-E]
  ·left
   rw[C,ct_ o o_]
 ·left
  exact bE_ z
theorem jw5 {i:Nat} {r:List Nat} {fs:List (List UInt8×Nat)} {ks:List Int} {f:List UInt8×Nat} (o:fs[i]?=some f) (h:f.1.length - f.2=0):Sd.cutFiles (i::r) fs ks=Sd.cutFiles r fs ks:=by
 have z:fs.getD i ([],0)=f:=by rw[t_,o];rfl
 rw[Sd.cutFiles,z,if_pos h]
theorem kw5 {i n:Nat} {r:List Nat} {fs:List (List UInt8×Nat)} {ks:List Int} {f:List UInt8×Nat} (o:fs[i]?=some f) (h:f.1.length - f.2=n) (C:n≠0):Sd.cutFiles (i::r) fs ks=Sd.cutFiles r (fs.set i (f.1.take (f.2+Sd.kept n (Sd.next ks n).1),f.2+Sd.kept n (Sd.next ks n).1)) (Sd.next ks n).2:=by
 have z:fs.getD i ([],0)=f:=by rw[t_,o];rfl
 have E:=rx2 n (Sd.next ks n).1;rw[Sd.cutFiles,z,if_neg o_,h];simp only[y_];rw[aQ_ o_]
theorem yv4 (X:Dw) (S:Sd) (w:World) (A:Option Addr) (n c:Nat) (ks:List Int) (hw:S.Wf) (a6:S.load<=1099511627776) (h:DK w X S) (hr:Row w w A n 1 (pz ks)) (hn:n<=c) (hc:c<=maxLen) (hA:∀j,j < (pz ks).length->∀a,A=some a->a.block∉X.foot) (p1:∀t∈S.turns,t.b.length<=1000) (B3:S.lasted.length<=1099511627776):
  Calls prog 11 #[X.d,.slice A n c] w fun e w'=>e=.returned (.tuple #[])/\Upd X w w' (S.ak1 ks):=by
 have f9:=b_ w (.cells #[.slice A n c] 73);have k9:=BoxO.new w #[.slice A n c] 73;have m4:=h.below f9;have g':=tj5 X S _ m4 a6;have p2:Kp X.foot w (w.alloc (.cells #[.slice A n c] 73)) w ks A n c:=⟨k9,hr.below f9,hn,hc,hA⟩;have p3:∀(X1:Dw),(∀g∈X1.foot,g∈X.foot\/(w:Nat)+1<=g)->(w:Nat)∉X1.foot:=fun X1 hf hm=>by
  rcases hf _ hm with h1|h1
  ·have:=h.lt _ h1;omega
  ·omega
 have m6:∀i∈S.led,i < S.files.length:=fun i hi=>by
  unfold Sd.led at hi;exact bd_.1 (ac_.1 hi).1
 obtain⟨L,hL⟩:=n_ S.led;rw[<-hL]at g' m6;obtain⟨C,hC⟩:=n_ (Sd.cutFiles L S.files ks);have p4:S.ak1 ks={ S with files:=C.1,names:=Sd.doTurns S.turns S.lasted C.2,lasted:=Sd.doTurns S.turns S.lasted C.2,turns:=[],dead:=false,stop:=0,fail:=0 }:=by rw[hC,hL];rfl
 have k':Fok S.files.length S.files:=⟨rfl,fun i f hf=>by
  obtain⟨hi,e⟩:=C_.1 hf;rw[<-e];exact hw.file i hi⟩
 have t4:=H_ p4;have HC:=H_ hC;have t5:=H_ m6;have B5:=H_ p3;have p5:=H_ k';have t6:Hid (L.length<=1099511627776):=H_ (by
  rw[hL];unfold Sd.led;have:=aw_ S.dx1 (List.range S.files.length);rw[List.length_range]at this;unfold Sd.load at a6;omega)
 have d0:(w.alloc (.cells #[.slice A n c] 73)).heap.size=(w:Nat)+1:=by simp
 have HW:=H_ hw;have t7:=H_ p1;clear p1;have z3:=h.box.lt;have d1:=h.lt;clear p4 hC hL m6 p3 k9 k' hr hA h hw;generalize B6:w.alloc (.cells #[.slice A n c] 73)=W0 at *;go_enter func11,ntmps11;go_wp2_with fail;refine g'.mono ?_;rintro e w1 ⟨lA,lc,rfl,z5,z6,h0,h7⟩;have p6:=m4.below h7;have m7:=p2.below h7 (by rw[d0];omega);have l1:Below w w w1:=f9.trans (h7.mono f9.size);have d5:w1.ownsRow ((w:Nat)+1) 3 1 (.slice lA L.length lc) L.length (tv1 L):=by rw[<-d0];exact h0
 have l2:(w:Nat)+1<=(w1:Nat):=by rw[<-d0];exact h7.size
 have l3:Chg X.foot w w1:=Chg.of_below l1 X.foot;have B7:L.length<=1099511627776:=by have:=t6.out;omega
 clear g' m4 p2 h7 h0 f9 d0;go_wp2_with fail
 go_loopw [16] (fun jj wr=>∃(j:Nat) (fs:List (List UInt8×Nat)) (E:List Int) (X1:Dw) (A1:Option Addr) (n1 c1:Nat),j<=L.length/\jj=.int .i64 (j:Int)/\X1.d=X.d/\DK wr X1 { S with files:=fs }/\Chg X.foot w wr/\(w:Nat)+1<=(wr:Nat)/\(∀g∈X1.foot,g∈X.foot)/\Kp X.foot w wr w E A1 n1 c1/\wr.ownsRow ((w:Nat)+1) 3 1 (.slice lA L.length lc) L.length (tv1 L)/\Hid (Fok S.files.length fs)/\Hid (Sd.cutFiles (L.drop j) fs E=C)) (fun jj _=>L.length - (intOf jj).toNat)
 case atStart=>exact⟨0,S.files,ks,X,A,n,c,A_ _,rfl,rfl,p6,l3,l2,fun _ h=>h,m7,d5,p5,H_ (by rw[List.drop_zero];exact HC.symm)⟩
 case round=>
  obtain⟨j,fs,E,X1,A1,n1,c1,hj,rfl,O,hD,h8,j7,J,h9,a1,h',hcut⟩:=hrel;clear p6 m7 d5 l3 l2 l1
  by_cases j8:j < L.length
  ·obtain⟨la,v,t8,B8,n0,B9⟩:=(Row.own a1).at1 j8
   subst t8;obtain⟨i,hi⟩:=n_ (L[j]);have t9:v=.int .i64 i:=by rw[hi];simp[tv1,j8]at n0;exact n0.symm
   subst t9;have j9:i < fs.length:=by rw[h'.out.1,hi];exact t5.out _ (w_ j8)
   have i0:L.drop j=i::L.drop (j+1):=by rw[hi];exact aO_ j8
   have a':=hcut.out;rw[i0]at a';have e5:i < X1.ps.length:=by rw[hD.flen];exact j9
   obtain⟨f,hf⟩:=n_ (fs[i]);have n4:fs[i]?=some f:=by rw[hf];exact j_ j9
   have t':=h'.out.2 i f n4;have i1:=hD.box.cell 1;simp only[Dw.cells,gE0,gE1]at i1;rw[O]at i1;obtain⟨gf,z7,u0,p7,B'⟩:=hD.fileAt j9;rw[u0]at i1;have l4:X1.ps.getD i (0,Go.undef)=X1.ps[i]:=by simp[t_,e5]
   rw[l4]at p7;have n5:rw1 wr X1.ps[i] f:=by rw[hf];exact hD.file i j9 e5
   have key:=fun(W w2:World) (u1:DK W X1 { S with files:=fs }) (v:Value) (f2:List UInt8×Nat) (u2:rw1 w2 ((X1.ps[i]).1,v) f2) (cc:Chg (gq X1.ps[i]) W w2) (hv:∀g,v.ownBlock=some g->(X1.ps[i]).2.ownBlock=some g)=>DK.qw u1 e5 u2 cc (fun g e=>.inl (hv g e));have p8:=fun(v:Value) (hv:∀g,v.ownBlock=some g->(X1.ps[i]).2.ownBlock=some g) (g:Nat) (o:g∈({ X1 with ps:=X1.ps.set i ((X1.ps[i]).1,v) }:Dw).foot)=>(ux2 e5 (n:=g+1) (fun g e=>.inl (hv g e)) g o).resolve_right o_;have l5:=fun g o=>nk1 (X:=X1) (i:=i) e5 (g:=g) o;have i2:=hD.apart.self _ (w_ e5);have z9:(i:Int) < (fs.length:Int):=o_
   generalize X1.ps[i]=p at *;obtain⟨pb,pv⟩:=p;obtain⟨b0,i3⟩:=n5;simp only at b0 i3;obtain⟨bA,bc,u4,C1,u6,_⟩:=ay i3;subst u4;have e0:=b0.c0;have e1:=b0.c1;have z0:=b0.free 0;have z1:=b0.free 1;obtain⟨nn,C6⟩:∃nn:Nat,(f.1.length:Int) - (f.2:Int)=(nn:Int):=⟨f.1.length - f.2,o_⟩;have p9:f.1.length - f.2=nn:=o_
   have C7:nn<=250000:=o_
   unfold ptrV at p7;have HK:=H_ key;have p':=H_ p8;have j':=H_ l5;have n6:=H_ a';have n7:=H_ n4;have C8:=H_ t';have n8:=H_ p9;have u7:=H_ i2;clear key p8 l5 a' hcut n4 p9 hi hf n0 i0 l4 i2;go_upto_region 6 with (fail)
   go_quiet (fail)
   have e':Below wr wr (wr.drewN nq):=below_drewN b0_ nq
   by_cases n9:nn=0
   ·subst n9
    have u':=H_ ((jw5 n7.out n8).symm.trans n6);go_wp2;go_roundw
    case rel=>exact⟨j+1,fs,E,X1,A1,n1,c1,o_,by go_num,O,hD.below e',h8.trans (Chg.of_below e' []) (fun g o=>by cases o),j7,J,h9.below e' o_,own_below a1 e',h',u'⟩
    case measure=>simp[intOf];omega
   ·have e9:((nn:Int)==0)=false:=by rw[beq_eq_false_iff_ne];omega
    have v1:=h9.below e' o_;have b3:=next_any X.foot w w E (nn:Int) (wr.drewN nq) A1 n1 c1 v1 l_;have v2:=H_ ((kw5 n7.out n8.out n9).symm.trans n6);have q4:=rx2 nn (Sd.next E nn).1;have k0:=ck4 nn (Sd.next E nn).1;generalize Sd.next E (nn:Int)=nx at *;obtain⟨xx,b5⟩:=nx;simp only at b3 q4 k0;obtain⟨kk,o0⟩:=n_ (Sd.kept nn xx);rw[<-o0]at q4 k0;have v':=H_ o0;have k1:=H_ b3;have w4:=H_ k0;have C9:0 < nn:=o_
    clear b3 k0 o0 n9;obtain⟨mm,C'⟩:∃mm:Nat,(f.2:Int)+(kk:Int)=(mm:Int):=⟨f.2+kk,o_⟩;have l6:mm=f.2+kk:=o_
    have w8:=H_ l6;have w9:mm<=f.1.length:=o_
    have D0:(mm:Int)<=(bc:Int):=o_
    obtain⟨ba,rfl⟩:∃ba,bA=some ba:=by
     cases bA with
     |none=>have:=uy3 i3;omega
     |some a=>exact⟨a,rfl⟩
    obtain⟨gb,cu,rfl,_,x0,f0,_,_,q6⟩:=jj1 i3;have q7:=H_ q6;have k2:=H_ f0;clear q6 f0 l6;go_wp2_with fail;refine k1.mono ?_;rintro e w3 ⟨rfl,f1,A3,n3,c3,a7⟩;simp only;have Q:(w:Nat)∉X1.foot:=fun hm=>by have:=J _ hm;have:=d1 _ this;omega
    have I:Chg [(w:Nat)] wr w3:=(Chg.of_below e' [(w:Nat)]).trans f1 (fun g o=>.inl o);have f3:=hD.chg I (by simpa using Q);have i4:Chg X.foot w w3:=h8.trans I (fun g o=>.inr (by rw[c_.1 o];exact B_ _));have b6:=jv a1 I (fun g o hm=>by have:=(a1.lt g o).1;simp at hm;omega);have a2:=b0.chg I (by simp only[c_];intro e;subst e;exact Q (j'.out _ (by simp[gq])));have l7:=x0.chg I (by simp only[c_];intro e;subst e;exact Q (j'.out _ (by simp[gq,Value.ownBlock])));have e0:=a2.c0;have e1:=a2.c1;have z0:=a2.free 0;have z1:=a2.free 1;have x1:gb≠pb:=by
     have:=u7.out;simp only[Value.ownBlock,ne_eq,aD_]at this;exact this
    have h1:=a2.store 0 (.slice (some gb) mm bc);have h2:=h1.store 1 (.int .i64 mm);simp only[T_,Q_]at h2;obtain⟨w5,k3⟩:=n_ ((w3.setCell pb (.slice (some gb) mm bc)).setCell (pb,1) (.int .i64 mm));have b7:Chg [pb] w3 w5:=by
     rw[k3];exact((Chg.refl [pb] w3).setCell _ (.inl s_)).setCell _ (.inl s_)
    rw[<-k3]at h2;have l8:=l7.chg b7 (by simpa using x1);have b8:=oj3 (base:=0) (n:=mm) z_ l8 k2.out o_ u6;have l9:cu.take (mm *1)=bts (f.1.take mm):=by
     have h3:=q7.out;rw[a6_]at h3 ⊢;rw[jq1,<-h3,aH_,aQ_ w9]
    rw[l9]at b8;have o1:(f.1.take mm).length=mm:=by rw[y_];omega
    have i5:w5.ownsRow 0 5 1 (.slice (some gb) mm bc) (f.1.take mm).length (bts (f.1.take mm)):=by rw[o1];exact b8
    have l':Chg (gq (pb,Value.slice (some gb) f.1.length bc)) w3 w5:=b7.mono (fun g o=>.inl (by rw[c_.1 o];simp[gq]));have o2:∀g,(Value.slice (some gb) mm bc).ownBlock=some g->(Value.slice (some gb) f.1.length bc).ownBlock=some g:=fun g o=>o;have k4:=HK.out w3 w5 f3 (.slice (some gb) mm bc) (f.1.take mm,mm) ⟨h2,i5⟩ l' o2;have q8:=p'.out (.slice (some gb) mm bc) o2;have d7:=j'.out pb (by simp[gq]);have m0:Chg X.foot w w5:=i4.trans b7 (fun g o=>.inl (by rw[c_.1 o];exact J _ d7));have d8:=a7.chg b7 (g_ o_ i4.size) (by simp only[c_];intro e;exact Q (by rw[e];exact d7)) (fun b hb=>.inr (by rw[c_.1 hb];exact J _ d7));have i6:=jv b6 b7 (fun g o hm=>by
     have h3:=(b6.lt g o).1;have h4:=d1 _ (J _ d7);rw[c_.1 hm]at h3;omega)
    have m1:Fok S.files.length (fs.set i (f.1.take mm,mm)):=⟨by rw[av_];exact h'.out.1,fun x y f4=>by
     rw[List.getElem?_set]at f4;split at f4
     ·injection f4 with f4
      rw[<-f4];simp only[y_];omega
     ·exact h'.out.2 x y f4⟩
    have o3:=v2.out;rw[<-v'.out,<-w8.out]at o3;have x3:Hid (∀w6,Below w5 w5 w6->∃(fs:List (List UInt8×Nat)) (E:List Int) (X1:Dw) (A1:Option Addr) (n1 c1:Nat),X1.d=X.d/\DK w6 X1 { S with files:=fs }/\Chg X.foot w w6/\(w:Nat)+1<=w6.heap.size/\(∀g∈X1.foot,g∈X.foot)/\Kp X.foot w w6 w E A1 n1 c1/\w6.ownsRow ((w:Nat)+1) 3 1 (.slice (some la) L.length lc) L.length (tv1 L)/\Hid (Fok S.files.length fs)/\Hid (Sd.cutFiles (L.drop (j+1)) fs E=C)):=H_ (fun w6 U=>⟨fs.set i (f.1.take mm,mm),b5,{ X1 with ps:=X1.ps.set i (pb,Value.slice (some gb) mm bc) },A3,n3,c3,O,k4.below U,m0.trans (Chg.of_below U []) (fun g o=>by cases o),g_ j7 (g_ I.size (g_ b7.size U.size)),fun g o=>J g (q8 g o),d8.below U (g_ o_ (g_ I.size b7.size)),own_below i6 U,H_ m1,H_ o3⟩);have A5:(w:Nat)<=(wr:Nat):=o_
    clear o3 m1 i6 d8 m0 q8 k4 o2 l' i5 o1 l9 b8 l8 h2 h1 b6 i4 f3 I Q a2 l7 a7 k1 n6 n7 n8 HK p' j' q7 k2 b0 i3 a1 h9 h8 hD;have x4:=H_ k3;clear k3
    rcases w4.out with hk|⟨m7,D2,D3⟩
    all_goals
     go_wp2_with fail;have D4:IntKind.i64.wrap (mm:Int)=(mm:Int):=M_ _ o_
     go_still_tail 14,(by kernel_rfl)
     change wpList _ _ _ _ _ (World.drew w3);go_wp2;go_roundw
     case rel=>
      obtain⟨x5,x6,X',A',n',c',g1,g2,g3,g4,g5,g6,g7,g8,g9⟩:=x3.out w5.drew (ax b0_);rw[show w5=_ from x4.out]at g2 g3 g4 g6 g7;exact⟨j+1,x5,x6,X',A',n',c',o_,by go_num,g1,g2,g3,g4,g5,g6,g7,g8,g9⟩
     case measure=>simp[intOf];omega
  ·obtain rfl:j=L.length:=o_
   have q9:C=(fs,E):=by
    have:=hcut.out;rw[ca_]at this;exact this.symm
   have x7:=H_ q9;clear q9 hcut;have D6:S.turns.length<=1099511627776:=by unfold Sd.load at a6;omega
   have D7:S.files.length<=1099511627776:=by unfold Sd.load at a6;omega
   obtain⟨tA,tc,o4,x8,D8,_⟩:=ay hD.turns;simp only at o4 x8;have d4:=hD.box.cell 4;simp only[Dw.cells,gE0,gE1]at d4;rw[O,o4]at d4;have x9:=HW.gturns;have x':=HW.turn;clear a1;go_wp2_with fail
   go_loopw [79] (fun jj k5=>∃(j:Nat) (m:Nm) (b5:List Int) (A2:Option Addr) (n2 c2:Nat),j<=S.turns.length/\jj=.int .i64 (j:Int)/\DK k5 X1 { S with files:=fs,lasted:=m }/\Chg X.foot w k5/\(w:Nat)+1<=(k5:Nat)/\Kp X.foot w k5 w b5 A2 n2 c2/\m.length<=S.lasted.length+j/\Hid (Sd.doTurns (S.turns.drop j) m b5=Sd.doTurns S.turns S.lasted E)) (fun jj _=>S.turns.length - (intOf jj).toNat)
   case atStart=>exact⟨0,S.lasted,E,A1,n1,c1,A_ _,rfl,hD,h8,j7,h9,o_,H_ (by rw[List.drop_zero])⟩
   case round=>
    obtain⟨j,m,b5,A2,n2,c2,D9,rfl,a0,d9,A7,i7,A8,k6⟩:=hrel;clear hD h8 j7 h9 d4;have Q:(w:Nat)∉X1.foot:=fun hm=>by have:=J _ hm;have:=d1 _ this;omega
    by_cases m2:j < S.turns.length
    ·have o5:=a0.turns
     rw[o4]at o5;obtain⟨ta,o1,y1,D',q0,q1,q2,q3⟩:=(Row.own o5).turn m2;subst y1;obtain⟨t,ht⟩:=n_ (S.turns[j]);rw[<-ht]at q0 q1 q2 q3;have i0:S.turns.drop j=t::S.turns.drop (j+1):=by rw[ht];exact aO_ m2
     have d':=k6.out;rw[i0,ez4]at d';have o:=x9 t (by rw[ht];exact w_ _);have hu:=x' t (by rw[ht];exact w_ _);have q':=t7.out t (by rw[ht];exact w_ _);have k7:=b_ wr (.cells (lq t).toArray 81);have o6:=BoxO.new wr (lq t).toArray 81;have a7:=i7.below k7 o_;have b3:=next_any X.foot w w b5 0 _ A2 n2 c2 a7 l_;have f3:=a0.below k7;generalize Sd.next b5 0=nx at *;obtain⟨xx,r0⟩:=nx;simp only at b3 d';have r1:=bv5 xx;have E2:(wr:Nat) < (wr.alloc (.cells (lq t).toArray 81)).heap.size:=by simp
     have k1:=H_ b3;have k8:=H_ d';have y2:Chg X.foot w (wr.alloc (.cells (lq t).toArray 81)):=d9.trans (Chg.of_below k7 []) (fun g o=>by cases o);have y3:Hid ((w:Nat)+1<=(wr.alloc (.cells (lq t).toArray 81)).heap.size):=H_ (by simp;omega);clear b3 d' k6 i0 ht o5 i7 a7 a0 k7 d9;unfold lq at *;have r2:(w:Nat)≠(wr:Nat):=o_
     generalize b9:wr.alloc (.cells _ 81)=V at *;obtain⟨tb,A9⟩:=n_ (wr:Nat);go_wp2_with fail;refine k1.mono ?_;rintro e w3 ⟨rfl,f1,A3,n3,c3,i8⟩;have f6:=f3.chg f1 (by simpa using Q);have i9:Chg X.foot w w3:=y2.trans f1 (fun g o=>.inr (by rw[c_.1 o];exact B_ _));have a8:=o6.chg f1 (by simpa using r2.symm);have m3:=g_ y3.out f1.size
     by_cases o7:xx % 2=0
     ·rw[o7]at r1
      rw[if_pos o7]at k8;have c0:=a8.cell 0;have y4:=a8.cell 1;have y5:=a8.cell 2;have y6:=a8.cell 3;have d3:=f6.box.cell 3;simp only[Dw.cells,gE0,gE1]at c0 y4 y5 y6 d3;rw[O]at d3;have r3:=ox4 t.kind t.file t.a t.b (by have:=ey1 o.1;unfold maxLen;omega) (by have:=q';unfold maxLen;omega) o_ X1.lb m.length m w3.drew f6.lasted.drew (by unfold maxLen;omega) o.2.2;have o8:=H_ r3;clear r3 f3 o6 b9;go_wp2_with fail
      go_still_tail 5,(by kernel_rfl)
      change wpList _ _ _ _ _ (World.drew w3);go_wp2_with fail;simp only[sq3]at o8;refine o8.mono ?_;rintro e w5 ⟨rfl,r4,r5⟩;have a9:Chg [X1.lb] w3 w5:=(Chg.refl [X1.lb] w3).drew.trans r5 (fun g o=>.inl o);have k4:=f6.qz4 r4 a9;have i':=J X1.lb (aj.2 (.inr (.inr (.inl rfl))));have r6:Chg X.foot w w5:=i9.trans a9 (fun g o=>.inl (by rw[c_.1 o];exact i'));have d8:=i8.chg a9 o_ (by simp only[c_];intro e;have:=d1 _ i';omega) (fun b hb=>.inr (by rw[c_.1 hb];exact i'));have r7:=ck3 (m:=m) (lj1 f6.lasted) t;have r8:=g_ m3 a9.size;have r9:(Tn.go ⟨t.kind,t.file,t.a,t.b⟩ m).length<=S.lasted.length+(j+1):=by
       have:Tn.go ⟨t.kind,t.file,t.a,t.b⟩ m=t.go m:=rfl;rw[this];split at r7<;>omega
      clear r7 r4 r5 a9 f6 i9 i8 a8 o8;go_wp2;go_roundw
      case rel=>exact⟨j+1,_,r0,A3,n3,c3,o_,by go_num,k4,r6,r8,d8,r9,k8⟩
      case measure=>simp[intOf];omega
     ·have r':xx % 2=1:=o_
      rw[r']at r1;rw[if_neg o7]at k8;clear f3 o6 b9;go_wp2;go_roundw
      case rel=>exact⟨j+1,m,r0,A3,n3,c3,o_,by go_num,f6,i9,m3,i8,o_,k8⟩
      case measure=>simp[intOf];omega
    ·obtain rfl:j=S.turns.length:=o_
     have s0:Sd.doTurns S.turns S.lasted E=m:=by
      have:=k6.out;rw[ca_]at this;exact this.symm
     have a4:=a0.box;rw[O]at a4;have d2:=a4.cell 2;have d3:=a4.cell 3;have f2:=a4.free 2;simp only[Dw.cells,gE0,gE1]at d2 d3;have b':=a4.store 2 (.map (some X1.lb));have j0:=tq wr ⟨X.d,2,none⟩ (.map (some X1.lb));simp only[Dw.cells,T_,Q_]at b';have j2:=a0.apart.d_lb;rw[O]at j2;have c9:=xy a0.lasted j0 (by simpa using j2.symm);obtain⟨V,b9⟩:=n_ (wr.setCell (X.d,2) (.map (some X1.lb)));rw[<-b9]at b' j0 c9;have f0:=AnyW.maps_Clone_owns clone32 9 (plainElem (H:=Unit) prog 3) X1.lb _ _ V c9;have s1:=b'.c2;have s2:=b'.c3;have s3:=b'.free 3;rw[b9]at f0 s1 s2 s3;have k2:=H_ f0;have y7:=H_ b9;clear b9 f0;go_wp2_with fail;refine k2.mono ?_;rintro e w6 ⟨rfl,o9,s4,U⟩;have s5:=y7.out;rw[<-s5]at o9 U ⊢;clear s5;have z:=b'.below U;have j3:Chg [X.d] wr w6:=j0.trans (Chg.of_below U []) (fun g o=>by cases o);have e3:=z.free 3;have e4:=z.free 4;have e6:=z.free 6;have e7:=z.free 7;have e8:=z.free 8;have v3:=z.c3;have v4:=z.c4;have v6:=z.c6;have v7:=z.c7;have v8:=z.c8;have e2:=((((z.store 3 (.map (some (V:Nat)))).store 4 (.slice none 0 0)).store 6 (.bool false)).store 7 (.int .i64 0)).store 8 (.int .i64 0);simp only[T_,Q_]at e2;clear s1 s2 s3 d2 d3 f2;have a5:Chg [X.d] w6 (((((w6.setCell (X.d,3) (.map (some (V:Nat)))).setCell (X.d,4) (.slice none 0 0)).setCell (X.d,6) (.bool false)).setCell (X.d,7) (.int .i64 0)).setCell (X.d,8) (.int .i64 0)):=(((((Chg.refl [X.d] w6).setCell _ (.inl s_)).setCell _ (.inl s_)).setCell _ (.inl s_)).setCell _ (.inl s_)).setCell _ (.inl s_);obtain⟨w7,o'⟩:=n_ ((((((w6.setCell (X.d,3) (.map (some (V:Nat)))).setCell (X.d,4) (.slice none 0 0)).setCell (X.d,6) (.bool false)).setCell (X.d,7) (.int .i64 0)).setCell (X.d,8) (.int .i64 0)));rw[<-o']at e2 a5;have s6:(wr:Nat)<=(V:Nat):=j0.size;have s7:=a0.box.lt;rw[O]at s7;have s8:=DK.dz6 (b1:=X1.lb) (b2:=(V:Nat)) (S':={ S with files:=fs,names:=m,lasted:=m,turns:=[],dead:=false,stop:=0,fail:=0 }) a0 (by rw[O];exact j3.trans a5 (fun g o=>.inl o)) (xy s4 a5 (by simpa using j2.symm)) (xy o9 a5 (by simp;omega)) (.inr (.inl rfl)) s6 (by have:=a0.lasted.lt;omega) (by rw[O];exact e2) rfl rfl;have s9:Upd X w w7 (S.ak1 ks):=by
      have e:S.ak1 ks={ S with files:=fs,names:=m,lasted:=m,turns:=[],dead:=false,stop:=0,fail:=0 }:=by rw[t4.out,x7.out,s0]
      rw[e];refine⟨{ X1 with nb:=X1.lb,lb:=(V:Nat),tv:=.slice none 0 0 },O,s8,d9.trans (j3.trans a5 (fun g o=>.inl o)) (fun g o=>.inl (by rw[c_.1 o];exact aj.2 (.inl rfl))),fun g o=>?_⟩
      rcases aj.1 o with h5|h5|h5|h5|h5|h5
      ·exact .inl (J g (aj.2 (.inl h5)))
      ·exact .inl (J g (aj.2 (.inr (.inr (.inl h5)))))
      ·right
       have h6:g=(V:Nat):=h5;omega
      ·exact .inl (J g (aj.2 (.inr (.inr (.inr (.inl h5))))))
      ·cases h5
      ·exact .inl (J g (aj.2 (.inr (.inr (.inr (.inr (.inr h5)))))))
     have HU:=H_ s9;have y8:=H_ o';clear s9 s8 e2 a5 o' j3 z U s4 o9 c9 j0 b' a4 a0 s0 k6 d9 i7;go_wp2;refine bodyPost_end (v:=.tuple #[]) (by simp[results,go_sem]) rfl ⟨rfl,?_⟩;have:=HU.out;rw[show w7=_ from y8.out]at this;exact this
end
section
namespace Gw
open Mn
open Mw (kCur)
def lookT (d:Sd) (n:Nat):Option (Gs×Bool)×Nat:=
 if (d.read (name kMan n)).2≠0 then (none,9)
 else match Vw.views (d.read (name kMan n)).1 with
  |none=>(none,9)
  |some (v,k,stop)=>(some (⟨name kMan n,v,k,false⟩,decide (stop < (d.read (name kMan n)).1.length)||decide (30 < k)),0)
def rj5 (d:Sd) (b:List UInt8):Option (Gs×Bool)×Nat:=
 if (Pn.take b).2.2≠0\/(Pn.take b).2.1≠b.length\/(Pn.take b).1 < 1\/1073741824 < (Pn.take b).1 then (none,9) else lookT d (Pn.take b).1
def vv5 (d:Sd) (t:List UInt8):Option (Gs×Bool)×Nat:=
 if (Fr.take t 0).2.2.2≠0\/(Fr.take t 0).1≠8\/(Fr.take t 0).2.2.1≠t.length then (none,9) else rj5 d (Fr.take t 0).2.1
def look (d:Sd):Option (Gs×Bool)×Nat:=
 if (d.read kCur).2≠0 then (none,(d.read kCur).2) else vv5 d (d.read kCur).1
def opens (d:Sd):Option Gs×Sd×Nat:=match look d with
 |(none,er)=>(none,d,er)
 |(some (M,must),_)=>if must=true then (if (rewriteM d M).2.2≠0 then (none,(rewriteM d M).1,(rewriteM d M).2.2) else (some (rewriteM d M).2.1,(rewriteM d M).1,0)) else (some M,d,0)
end Gw
theorem Sd.uk2 {d:Sd} (h:d.Wf) (s:List UInt8):(d.read s).1.length<=250000:=by
 unfold Sd.read;split
 ·simp
 ·split
  ·simp
  ·cases o:d.names.get s with
   |none=>simp
   |some i=>exact(Sd.ez2 h (h.names _ (Nm.get_mem o))).2
variable {m:Nat} {X X1:Dw} {w w1 w2:World} {S S1:Sd} {M M1:Gs}
def bx2 (X:Dw) (w:World) (R:Option (Gs×Bool)×Nat) (e:Ending) (w':World):Prop:=Below w w w'/\match R with
 |(none,er)=>e=.returned (.tuple #[.pointer none,.bool false,(er:Int)])
 |(some (M,must),_)=>∃m P,e=.returned (.tuple #[.pointer (some ⟨m,0,none⟩),.bool must,.int .i64 0])/\GK w' m X.d M P/\(w:Nat)<=m/\Vrow w' X m P M.v.files/\P.n<=40
theorem bx2.no {R:Option (Gs×Bool)×Nat} {er:Nat} (o:R=(none,er)) (z:Below w w w1):bx2 X w R (.returned (.tuple #[.pointer none,.bool false,(er:Int)])) w1:=by
 subst o;exact⟨z,rfl⟩
theorem bx2.yes {R:Option (Gs×Bool)×Nat} {o:Bool} {er:Nat} (z:R=(some (M,o),er)) (C:Below w w w1) {P:Sl} (h1:GK w1 m X.d M P) (h2:(w:Nat)<=m) (h3:Vrow w1 X m P M.v.files) (h4:P.n<=40):bx2 X w R (.returned (.tuple #[m,.bool o,.int .i64 0])) w1:=by
 subst z;exact⟨C,m,P,rfl,h1,h2,h3,h4⟩
theorem nj4 (h:Dm w X S):Calls prog 36 #[X.d] w (bx2 X w (Gw.look S)):=by
 obtain⟨R,hR⟩:=n_ (Gw.look S);rw[<-hR];have e0:=h.wf;have b3:=cw2 X S sCur (by decide) h.wf w h.dk;rw[lv3]at b3;unfold sCur at b3;have h7:=Sd.uk2 e0 Mw.kCur;have a7:R=if (S.read Mw.kCur).2≠0 then (none,(S.read Mw.kCur).2) else Gw.vv5 S (S.read Mw.kCur).1:=hR
 clear hR;generalize S.read Mw.kCur=rc at *;obtain⟨t,er⟩:=rc;simp only at b3 h7 a7
 by_cases a4:er≠0
 ·have e1:((er:Int)==0)=false:=by simp;omega
  have d5:((er:Int) !=0)=true:=by simp;omega
  rw[if_pos a4]at a7;have HR:=H_ a7;clear a7 a4;go_enter func36,ntmps36;go_wp2_with fail;refine b3.mono ?_;rintro e w1 ⟨A1,c1,rfl,_,E⟩;have HL:=H_ (bx2.no (X:=X) HR.out E);clear E;go_wp2;refine bodyPost_ret (v:=.tuple #[.pointer none,.bool false,(er:Int)]) (by simp[results,go_sem]) rfl HL
 have b9:er=0:=o_
 subst b9;rw[if_neg s_]at a7;clear a4;have a8:R=if (Fr.take t 0).2.2.2≠0\/(Fr.take t 0).1≠8\/(Fr.take t 0).2.2.1≠t.length then (none,9) else Gw.rj5 S (Fr.take t 0).2.1:=a7
 clear a7;have I:=fun(A1:Option Addr) (c1:Nat) (w1:World) (h1:t.length<=c1) (h2:c1<=maxLen) (h3:Row w1 w1 A1 t.length 1 (bts t))=>jk2 A1 t.length c1 t 0 w1 o_ h1 h2 h3 z_;rw[show ((0:Nat):Int)=0 from rfl]at I;have h8:=Fr.take_len t 0;generalize Fr.take t 0=rt at *;obtain⟨k,Q,nx,er⟩:=rt;simp only at h8;simp only at I a8;have e4:=H_ I;have e5:=H_ b3;clear I b3
 by_cases h1:er≠0\/k≠8\/nx≠t.length
 ·rw[if_pos h1]at a8
  have HR:=H_ a8;clear a8;have hc:(((er:Int)==0)=false/\((er:Int) !=0)=true)\/(er=0/\((k:Int)==8)=false/\((k:Int) !=8)=true)\/(er=0/\k=8/\((nx:Int)==(t.length:Int))=false/\((nx:Int) !=(t.length:Int))=true):=by
   by_cases a:er=0
   ·by_cases b:k=8
    ·refine .inr (.inr ⟨a,b,?_,?_⟩) <;>(simp;omega)
    ·refine .inr (.inl ⟨a,?_,?_⟩) <;>(simp;omega)
   ·refine .inl ⟨?_,?_⟩ <;>(simp;omega)
  clear h1
  rcases hc with ⟨e1,d5⟩|⟨rfl,e1,d5⟩|⟨rfl,rfl,e1,d5⟩
  all_goals
   go_enter func36,ntmps36;go_wp2_with fail;refine e5.mono ?_;rintro e w1 ⟨A1,c1,rfl,z,E⟩;have C:t.length<=c1/\c1<=maxLen:=by
    obtain⟨A',c',e,h1,h2,_⟩:=ay z;injection e with _ e2 e3;omega
   have I:=e4.out A1 c1 w1 C.1 C.2 (Row.own z);clear z;go_wp2_with fail;refine I.mono ?_;rintro e w2 ⟨A2,M2,c2,rfl,_,_,_,a0⟩;have HL:=H_ (bx2.no (X:=X) HR.out (E.trans (a0.mono E.size)));clear E a0 I;go_wp2;refine bodyPost_ret (v:=.tuple #[.pointer none,.bool false,.int .i64 9]) (by simp[results,go_sem]) rfl HL
 rw[if_neg h1]at a8;obtain⟨rfl,rfl,rfl⟩:er=0/\k=8/\nx=t.length:=o_
 clear h1;have a9:R=if (Pn.take Q).2.2≠0\/(Pn.take Q).2.1≠Q.length\/(Pn.take Q).1 < 1\/1073741824 < (Pn.take Q).1 then (none,9) else Gw.lookT S (Pn.take Q).1:=a8
 clear a8;have a1:=fun(A1:Option Addr) (N c1:Nat) (w1:World) (h1:N<=1073741824) (h3:Row w1 w1 A1 N 1 (bts Q))=>take_any A1 N c1 Q w1 h1 h3;generalize Pn.take Q=rn at *;obtain⟨n,sz,er⟩:=rn;simp only at a1 a9;have f4:=H_ a1;clear a1
 by_cases h1:er≠0\/sz≠Q.length\/n < 1\/1073741824 < n
 ·rw[if_pos h1]at a9
  have HR:=H_ a9;clear a9;have hc:(((er:Int)==0)=false/\((er:Int) !=0)=true)\/(er=0/\((sz:Int)==(Q.length:Int))=false/\((sz:Int) !=(Q.length:Int))=true)\/(er=0/\sz=Q.length/\((n:Int) < 1)/\(n:Int) < 1)\/(er=0/\sz=Q.length/\((n:Int) < 1)=False/\(1073741824:Int) < (n:Int)):=by
   by_cases a:er=0
   ·by_cases b:sz=Q.length
    ·by_cases c:n < 1
     ·exact .inr (.inr (.inl ⟨a,b,o_,o_⟩))
     ·refine .inr (.inr (.inr ⟨a,b,?_,o_⟩))
      simp;omega
    ·refine .inr (.inl ⟨a,?_,?_⟩) <;>(simp;omega)
   ·refine .inl ⟨?_,?_⟩ <;>(simp;omega)
  clear h1
  rcases hc with ⟨e1,e2⟩|⟨rfl,e1,e2⟩|⟨rfl,rfl,e1,e2⟩|⟨rfl,rfl,e1,e2⟩
  all_goals
   go_enter func36,ntmps36;go_wp2_with fail;refine e5.mono ?_;rintro e w1 ⟨A1,c1,rfl,z,E⟩;have C:t.length<=c1/\c1<=maxLen:=by
    obtain⟨A',c',e,h1,h2,_⟩:=ay z;injection e with _ e2 e3;omega
   have I:=e4.out A1 c1 w1 C.1 C.2 (Row.own z);clear z;go_wp2_with fail;refine I.mono ?_;rintro e w2 ⟨A2,M2,c2,rfl,H,i0,i1,a0⟩;have b':Q.length=M2:=(Row.own H).xk;subst b';have a1:=f4.out A2 Q.length c2 w2 o_ (Row.own H);have U:=E.trans (a0.mono E.size);clear E a0 I H;go_wp2_with fail;refine a1.mono ?_;rintro e w3 ⟨rfl,rfl⟩;have HL:=H_ (bx2.no (X:=X) HR.out U);clear U a1;go_wp2;refine bodyPost_ret (v:=.tuple #[.pointer none,.bool false,.int .i64 9]) (by simp[results,go_sem]) rfl HL
 rw[if_neg h1]at a9;obtain⟨rfl,rfl,j5,j6⟩:er=0/\sz=Q.length/\1<=n/\n<=1073741824:=o_
 clear h1;have n1:((n:Int) < 1)=False:=by simp;omega
 have n2:((1073741824:Int) < (n:Int))=False:=by simp;omega
 have d6:R=if (S.read (Mn.name Mn.kMan n)).2≠0 then (none,9) else match Vw.views (S.read (Mn.name Mn.kMan n)).1 with
  |none=>(none,9)
  |some (v,k,stop)=>(some (⟨Mn.name Mn.kMan n,v,k,false⟩,decide (stop < (S.read (Mn.name Mn.kMan n)).1.length)||decide (30 < k)),0):=a9
 clear a9;obtain⟨nm,e7⟩:=n_ (Mn.name Mn.kMan (n:Int));have i2:=qj4 n;rw[<-e7]at d6 i2;have i3:=H_ e7;clear e7;have i4:=Sd.uk2 e0 nm;have J:=fun(W:World) (hW:Dm W X S)=>cw2 X S (str nm) (by rw[jy];unfold maxLen;omega) e0 W hW.dk;rw[kz]at J;generalize S.read nm=rr at *;obtain⟨u,er⟩:=rr;simp only at J i4 d6;have f5:=H_ J;have HR:=H_ d6;clear d6 J;go_enter func36,ntmps36;go_wp2_with fail;refine e5.mono ?_;rintro e w1 ⟨A1,c1,rfl,z,E⟩;have C:t.length<=c1/\c1<=maxLen:=by
  obtain⟨A',c',e,h1,h2,_⟩:=ay z;injection e with _ e2 e3;omega
 have I:=e4.out A1 c1 w1 C.1 C.2 (Row.own z);clear z;go_wp2_with fail;refine I.mono ?_;rintro e w2 ⟨A2,M2,c2,rfl,H,i0,i1,a0⟩;have b':Q.length=M2:=(Row.own H).xk;subst b';have a1:=f4.out A2 Q.length c2 w2 o_ (Row.own H);have h2:=(h.below E).below a0;have U:=E.trans (a0.mono E.size);clear E a0 I H;go_wp2_with fail;refine a1.mono ?_;rintro e w3 ⟨rfl,rfl⟩;have d7:=name_any sMan (by decide) (n:Int) o_ w2 h2.env;rw[wx1,<-show nm=_ from i3.out]at d7;unfold sMan at d7;clear a1;go_wp2_with fail;refine d7.mono ?_;rintro e w4 ⟨rfl,e9⟩;have h4:=h2.below e9;have b1:=U.trans (e9.mono U.size);have J:=f5.out w4 h4;clear d7 U e9 h2;go_wp2_with fail;refine J.mono ?_;rintro e w5 ⟨A5,c5,rfl,a2,d8⟩;have O:=b1.trans (d8.mono b1.size)
 by_cases a4:er≠0
 ·have e1:((er:Int)==0)=false:=by simp;omega
  have d5:((er:Int) !=0)=true:=by simp;omega
  have HL:=H_ (bx2.no (X:=X) (HR.trans (if_pos a4)) O);clear a4 O a2 d8 b1 h4 J;go_wp2;refine bodyPost_ret (v:=.tuple #[.pointer none,.bool false,.int .i64 9]) (by simp[results,go_sem]) rfl HL
 have b9:er=0:=o_
 subst b9;have a5:=HR.trans (if_neg a4);have c9:u.length<=c5/\c5<=maxLen:=by
  obtain⟨A',c',e,h1,h2,_⟩:=ay a2;injection e with _ e2 e3;omega
 have b5:=az5 A5 u.length c5 u w5 o_ c9.1 c9.2 (Row.own a2);have h5:=h4.below d8;clear J d8 a2 b1 h4 a4
 cases hV:Vw.views u with
 |none=>
  rw[hV]at b5 a5;have e':=H_ a5;clear a5 hV HR;go_wp2_with fail;refine b5.mono ?_;rintro e w6 ⟨d0,f6⟩;simp only[Vw.none_,Vw.val]at f6;subst f6;have HL:=H_ (O.trans (d0.mono O.size));clear d0 O b5;go_wp2;refine bodyPost_ret (v:=.tuple #[.pointer none,.bool false,.int .i64 9]) (by simp[results,go_sem]) rfl (bx2.no (er:=9) e'.out (HL.alloc HL.size _))
 |some x=>
  obtain⟨v,k,stop⟩:=x;rw[hV]at b5 a5;simp only at a5;obtain⟨bb,f1⟩:=n_ ((decide (stop < u.length)||decide (30 < k)));rw[<-f1]at a5;have e':=H_ a5;have f2:=H_ f1;clear a5 hV HR f1;go_wp2_with fail;refine b5.mono ?_;rintro e w6 ⟨d0,A,N,c,rfl,hN,b0⟩;unfold Vw.val;have b2:=O.trans (d0.mono O.size);have d1:=(b2.alloc b2.size (.cells #[v.log,.slice A N c,[v.floor],[v.cert],[v.at_],[v.lease]] 106));have i':=b2.size;have f3:∀a,A=some a->(w5:Nat)<=a.block:=b0.low;have f7:GK ((w6.alloc (.cells #[v.log,.slice A N c,[v.floor],[v.cert],[v.at_],[v.lease]] 106)).alloc (.cells #[X.d,.string (str nm),v.log,.slice A N c,[v.floor],[v.cert],[v.at_],[v.lease],(k:Int),.int .u32 0,.int .i32 0,.int .u32 0,.bool false] 160)) ((w6:Nat)+1) X.d ⟨nm,v,k,false⟩ ⟨A,N,c⟩:=by
   have:=BoxO.new (w6.alloc (.cells #[v.log,.slice A N c,[v.floor],[v.cert],[v.at_],[v.lease]] 106)) #[X.d,.string (str nm),v.log,.slice A N c,[v.floor],[v.cert],[v.at_],[v.lease],(k:Int),.int .u32 0,.int .i32 0,.int .u32 0,.bool false] 160;rw[show ∀o,(w6.alloc o).heap.size=(w6:Nat)+1 from fun _=>by simp]at this;exact this
  have d':=d1.alloc d1.size (.cells #[X.d,.string (str nm),v.log,.slice A N c,[v.floor],[v.cert],[v.at_],[v.lease],(k:Int),.int .u32 0,.int .i32 0,.int .u32 0,.bool false] 160);have f8:∀o o',Vrow ((w6.alloc o).alloc o') X ((w6:Nat)+1) ⟨A,N,c⟩ v.files:=fun o o'=>by
   refine⟨((((b0.row.alloc l_ o).up s_).alloc l_ o').up s_),b0.nc,b0.cm,by simp only;omega,fun j hj a ha=>⟨?_,fun hm=>?_⟩⟩
   ·obtain⟨a',e,hb,_⟩:=b0.row.cell j hj
    simp only at ha;rw[ha]at e;injection e with e;subst e;omega
   ·have h4:=b0.low a ha
    have h5:=h5.dk.lt _ hm;omega
  have f9:∀b,bb=b->bx2 X w R (.returned (.tuple #[.pointer (some ⟨(w6:Nat)+1,0,none⟩),.bool b,.int .i64 0])) ((w6.alloc (.cells #[v.log,.slice A N c,[v.floor],[v.cert],[v.at_],[v.lease]] 106)).alloc (.cells #[X.d,.string (str nm),v.log,.slice A N c,[v.floor],[v.cert],[v.at_],[v.lease],(k:Int),.int .u32 0,.int .i32 0,.int .u32 0,.bool false] 160)):=fun b hb=>bx2.yes (er:=0) (by rw[<-hb];exact e') d' f7 o_ (f8 _ _) hN;have b7:=H_ f9;clear f9 f8 d' f7 d1 b2 O d0 b5 f3 h5 b0
  by_cases q1:stop < u.length
  ·have i7:(stop:Int) < (u.length:Int):=o_
   have a6:bb=true:=by rw[show bb=_ from f2.out];simp[q1]
   have d2:=H_ (b7.out true a6);clear q1 a6 b7;go_wp2;refine bodyPost_ret (v:=.tuple #[.pointer (some ⟨(w6:Nat)+1,0,none⟩),.bool true,.int .i64 0]) (by simp[results,results36,go_sem]) rfl d2
  ·have i7:((stop:Int) < (u.length:Int))=False:=by simp;omega
   by_cases q2:30 < k
   ·have i8:(30:Int) < (k:Int):=o_
    have a6:bb=true:=by rw[show bb=_ from f2.out];simp[q2]
    have d2:=H_ (b7.out true a6);clear q1 q2 a6 b7;go_wp2;refine bodyPost_ret (v:=.tuple #[.pointer (some ⟨(w6:Nat)+1,0,none⟩),.bool true,.int .i64 0]) (by simp[results,results36,go_sem]) rfl d2
   ·have i8:((30:Int) < (k:Int))=False:=by simp;omega
    have a6:bb=false:=by rw[show bb=_ from f2.out];simp[q1,q2]
    have d2:=H_ (b7.out false a6);clear q1 q2 a6 b7;go_wp2;refine bodyPost_ret (v:=.tuple #[.pointer (some ⟨(w6:Nat)+1,0,none⟩),.bool false,.int .i64 0]) (by simp[results,results36,go_sem]) rfl d2
end
end Go.Proofs.YtfbkjjdfboagfaaGreatDoor
