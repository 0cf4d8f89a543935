/- Some of the texts. No conditions. -/
import Derived.Test.YtkdbagdiplpcfaaGreatDoorBunAC
import Derived.Test.YtkdbagdiplpcfaaGreatDoorBunAD
import Derived.Test.YtkdbagdiplpcfaaGreatDoorBunAE
import Derived.Shelf.Spec.SlicesInsert

set_option linter.unusedSimpArgs false
set_option linter.unusedVariables false
set_option maxRecDepth 100000
set_option maxHeartbeats 16000000
namespace Go.Proofs.YtkdbagdiplpcfaaGreatDoor
open Go.Proofs.Tryz Go Go.RowKit Go.Lib Go.Shelf
def dw (fs:List (Int×Int)):List Value:=fs.flatMap fun f=>[.int .i64 f.1,.int .i64 f.2]
theorem iv1 (fs:List (Int×Int)):(dw fs).length=fs.length *2:=by
 induction fs with
 |nil=>rfl
 |cons f t C=>simp only[dw,S_,d_,q_]at C ⊢;simp only[V_]at *;omega
theorem yv1 (a b:List (Int×Int)):dw (a++b)=dw a++dw b:=by simp[dw]
theorem ek1 (fs:List (Int×Int)):∀u∈dw fs,u.oneCell'=true:=by
 intro u C;obtain⟨f,_,h⟩:=ac_.1 C;simp at h
 rcases h with rfl|rfl<;>rfl
theorem nk2:∀(fs:List (Int×Int)) (k:Nat) (C:k < fs.length),(dw fs)[k *2]?=some (.int .i64 (fs[k]).1)/\(dw fs)[k *2+1]?=some (.int .i64 (fs[k]).2)
 |f::t,0,_=>by simp[dw]
 |f::t,k+1,C=>by
  have E:=nk2 t k (by simpa using C);have e:dw (f::t)=.int .i64 f.1::.int .i64 f.2::dw t:=by simp[dw]
  rw[e,show (k+1)*2=k *2+1+1 by omega,show k *2+1+1+1=(k *2+1)+1+1 by omega];simpa using E
theorem jw1:∀(fs:List (Int×Int)) (k:Nat),dw (fs.take k)=(dw fs).take (k *2)
 |fs,0=>by simp[dw]
 |[],k+1=>by simp[dw]
 |f::t,k+1=>by
  have C:=jw1 t k;have e:∀t,dw (f::t)=.int .i64 f.1::.int .i64 f.2::dw t:=fun t=>by simp[dw]
  rw[cc_,e,e,C,show (k+1)*2=k *2+1+1 by omega];simp
theorem kq3 (fs:List (Int×Int)) (k:Nat):dw (fs.drop k)=(dw fs).drop (k *2):=by
 have h1:=yv1 (fs.take k) (fs.drop k);rw[al_,jw1]at h1;have h2:=al_ (k *2) (dw fs);rw[h1]at h2;rw[<-h1]at h2;exact(List.append_cancel_left (h2.trans h1)).symm
structure FAt (B:Nat) (w:World) (a:Addr) (k:Nat) (f:Int×Int):Prop where
 blk:a.block < B
 c0:w.cell? (a.add (k *2))=some (.int .i64 f.1)
 c1:w.cell? ⟨(a.add (k *2)).block,(a.add (k *2)).off+1,none⟩=some (.int .i64 f.2)
theorem ty5 (a:Addr) (k:Nat) {j:Nat} (hj:0 < j):a.add (k+j)=⟨(a.add k).block,(a.add k).off+j,none⟩:=by
 rw[<-vj1,Addr.add,if_neg o_]
variable {B n:Nat} {w w':World} {A:Option Addr} {fs:List (Int×Int)}
theorem Row.flen (h:Row B w A n 2 (dw fs)):fs.length=n:=by
 have:=h.len;rw[iv1]at this;omega
theorem Row.file (h:Row B w A n 2 (dw fs)) {k:Nat} (Q:k < n):∃a,∃I:k < fs.length,A=some a/\FAt B w a k fs[k]:=by
 have I:k < fs.length:=by have:=h.flen;omega
 have J:=iv1 fs;obtain⟨C,E⟩:=nk2 fs k I;obtain⟨a,e,O,c0⟩:=h.cell (k *2) o_;obtain⟨U,H,_,c1⟩:=h.cell (k *2+1) o_;rw[e]at H;injection H with H;subst H;rw[h_ o_]at C E;injection C with C;injection E with E;rw[C]at c0;rw[E,ty5 a (k *2) o_]at c1;exact⟨a,I,e,O,c0,c1⟩
def uw (ns:List Int):List Value:=ns.map fun n=>.int .i64 n
theorem fq4 (ns:List Int) (k:Nat):(uw ns)[k]?=(ns[k]?).map fun n=>.int .i64 n:=by simp[uw]
theorem Row.ilen {ns:List Int} (h:Row B w A n 1 (uw ns)):ns.length=n:=by
 have:=h.len;simp[uw]at this;omega
theorem Row.int_ {ns:List Int} (h:Row B w A n 1 (uw ns)) {k:Nat} (H:k < n):∃a,∃E:k < ns.length,A=some a/\a.block < B/\w.cell? (a.add k)=some (.int .i64 ns[k]):=by
 obtain⟨a,v,e,I,C,J⟩:=h.at1 H;have E:k < ns.length:=by have:=h.ilen;omega
 rw[fq4,h_ E]at C;injection C with C;subst C;exact⟨a,E,e,I,J⟩
theorem vy1 (n:Int) (w:World):Calls prog 225 #[.int .i64 n] w fun e w'=>e=.returned (.bool (isNum n))/\w=w':=by
 obtain⟨b,C⟩:=n_ (isNum n);rw[<-C];unfold isNum at C;have E:=H_ C;clear C;go_enter func225,ntmps225
 by_cases h1:1<=n
 ·by_cases h2:n<=1073741824
  ·go_wp2
   go_ret;exact⟨by rw[E.out];simp[h1,h2],rfl⟩
  ·go_wp2
   go_ret;exact⟨by rw[E.out];simp[h2],rfl⟩
 ·go_wp2
  go_ret;exact⟨by rw[E.out];simp;omega,rfl⟩
theorem pv2 (f:Int×Int) (w:World):Calls prog 227 #[.agg #[.int .i64 f.1,.int .i64 f.2]] w fun e w'=>e=.returned (.bool (xq f))/\Below w.heap.size w w':=by
 obtain⟨l,n⟩:=f;obtain⟨b,C⟩:=n_ (xq (l,n));rw[<-C];unfold xq at C;simp only at C ⊢
 cases H:isNum n with
 |false=>
  rw[H]at C;have E:=vy1 n;rw[H]at E;have I:=H_ C;clear C H;go_enter func227,ntmps227;go_wp2_with fail;refine(E _).mono ?_;rintro e J ⟨rfl,rfl⟩;go_wp2;go_ret;exact⟨by rw[I.out];rfl,b_ _ _⟩
 |true=>
  rw[H]at C;have E:=vy1 n;rw[H]at E;have I:=H_ C;clear C H
  by_cases h1:0<=l
  ·by_cases h2:l<=3
   ·go_enter func227,ntmps227
    go_wp2_with fail;refine(E _).mono ?_;rintro e J ⟨rfl,rfl⟩;go_wp2;go_ret;exact⟨by rw[I.out];simp[h1,h2],b_ _ _⟩
   ·go_enter func227,ntmps227
    go_wp2_with fail;refine(E _).mono ?_;rintro e J ⟨rfl,rfl⟩;go_wp2;go_ret;exact⟨by rw[I.out];simp;omega,b_ _ _⟩
  ·go_enter func227,ntmps227
   go_wp2_with fail;refine(E _).mono ?_;rintro e J ⟨rfl,rfl⟩;go_wp2;go_ret;exact⟨by rw[I.out];simp;omega,b_ _ _⟩
theorem rz5 (f:Int×Int) (b:Nat) (m:Int) (w:World) (C:w.cell? ⟨b,1,none⟩=some (.int .i64 m)):
  Calls prog 229 #[.agg #[.int .i64 f.1,.int .i64 f.2],.pointer (some ⟨b,0,none⟩)] w fun e w'=>e=.returned (.bool (f.2==m))/\Below w.heap.size w w':=by
 have E:∀o,(w.alloc o).cell? ⟨b,1,none⟩=some (.int .i64 m):=fun o=>(R_ w o _ (M_ w _ C)).trans C;go_enter func229,ntmps229;go_wp2;go_ret;exact⟨rfl,b_ _ _⟩
theorem px5 (f:Int×Int) (p:Addr) (m:Int) (w:World) (C:w.cell? p=some (.int .i64 m)):
  Calls prog 235 #[.agg #[.int .i64 f.1,.int .i64 f.2],.pointer (some p)] w fun e w'=>e=.returned (.bool (f.2==m))/\Below w.heap.size w w':=by
 have E:∀o,(w.alloc o).cell? p=some (.int .i64 m):=fun o=>(R_ w o _ (M_ w _ C)).trans C;go_enter func235,ntmps235;go_wp2;go_ret;exact⟨rfl,b_ _ _⟩
theorem zy4 (f:Int×Int) (w:World):Calls prog 272 #[.agg #[.int .i64 f.1,.int .i64 f.2]] w fun e w'=>e=.returned (.bool (!xq f))/\Below w.heap.size w w':=by
 go_enter func272,ntmps272;go_wp2_with fail;refine(pv2 f _).mono ?_;rintro e E ⟨rfl,C⟩;go_wp2;go_ret;exact⟨rfl,az (b_ _ _) C⟩
theorem bj5 (n:Int) (w:World):Calls prog 271 #[.int .i64 n] w fun e w'=>e=.returned (.bool (!isNum n))/\w=w':=by
 go_enter func271,ntmps271;go_wp2_with fail;refine(vy1 n _).mono ?_;rintro e C ⟨rfl,rfl⟩;go_wp2;go_ret;exact⟨rfl,rfl⟩
theorem aw2 {k:IntKind} {a b:Int} (h:a=b):Ending.returned (.int k a)=.returned (.int k b):=by rw[h]
theorem kk1 {a b:Bool} (h:a=b):Ending.returned (.bool a)=.returned (.bool b):=by rw[h]
def fidx {α:Type} (P:α->Bool) (l:List α):Int:=if l.any P=true then (l.findIdx P:Int) else -1
theorem bj1 {α:Type} {P:α->Bool} {l:List α} (h:l.any P=false):fidx P l=-1:=by unfold fidx;rw[h];rfl
theorem kv1 {α:Type} {P:α->Bool} {l:List α} {k:Nat} (h:k < l.length):(l.take (k+1)).any P=((l.take k).any P||P l[k]):=by
 rw[r_ h,bT_];simp
theorem iq1 {α:Type} {P:α->Bool} {l:List α} {k:Nat} (C:k < l.length) (E:(l.take k).any P=false) (h1:P l[k]=true):fidx P l=(k:Int):=by
 unfold fidx;rw[if_pos (ay_.2 ⟨_,u_ C,h1⟩)]
 congr 1
 rw[List.findIdx_eq C];refine⟨h1,fun j hj=>?_⟩;have:=X_.1 E l[j] (by
  rw[aF_];exact⟨j,o_,rfl⟩)
 simpa using this
theorem ij2 {α:Type} (P:α->Bool) (l:List α):decide (0<=fidx P l)=l.any P:=by
 unfold fidx;split
 ·rename_i h;rw[h];simp
 ·rename_i h;simp at h;simp;exact h
theorem mv3 {α:Type} {P:α->Bool} {l:List α} (h:l.any P=true):∃i:Nat,fidx P l=(i:Int)/\∃hi:i < l.length,P l[i]=true/\l.findIdx P=i:=by
 unfold fidx;rw[if_pos h];have C:l.findIdx P < l.length:=bX_.2 (by simpa using h);exact⟨_,rfl,C,bf_ (w:=C),rfl⟩
theorem uk3 (K:Nat) (hF:∀args w,(callFunc K args).run prog w=.ok (.enter K args) w) (p:Addr) (P:Int×Int->Bool) (A:Option Addr) (n c:Nat) (fs:List (Int×Int)) (w:World) (hn:n<=1000000) (hr:Row w.heap.size w A n 2 (dw fs))
  (hK:∀f I,Below w.heap.size w I->Calls prog K #[.agg #[.int .i64 f.1,.int .i64 f.2],.pointer (some p)] I fun e w'=>e=.returned (.bool (P f))/\Below I.heap.size I w'):
  Calls prog 234 #[.slice A n c,.func (.func K) #[] #[.pointer (some p)]] w fun e w'=>e=.returned (.int .i64 (fidx P fs))/\Below w.heap.size w w':=by
 have a7:=hr.flen;have HK:=H_ hK;have HF:=H_ hF;clear hK hF;go_enter func234,ntmps234;go_wp2
 go_loopw [8] (fun i wr=>∃k:Nat,k<=n/\i=.int .i64 (k:Int)/\Hid ((fs.take k).any P=false)/\Below w.heap.size w wr) (fun i _=>n - (intOf i).toNat)
 case atStart=>exact⟨0,w_ _,rfl,H_ rfl,Below.refl _ _⟩
 case round=>
  obtain⟨k,hk,rfl,Q,C⟩:=hrel
  by_cases U:k < n
  ·obtain⟨a,Z,rfl,a9,c0,c1⟩:=(hr.below C).file U
   have ht:=kv1 (P:=P) Z;have hs:=fun h1=>iq1 (P:=P) Z Q.out h1;generalize fs[k]=f at *;have HT:=H_ ht;have HS:=H_ hs;clear ht hs Z;have O:=HK.out f wr C
   cases J:P f with
   |true=>
    rw[J]at O;have HP:=H_ J;clear J;go_wp2_with fail;rw[HF.out,Oper.upon_enter];refine O.mono ?_;rintro e I ⟨rfl,H⟩;go_wp2;go_ret;exact⟨aw2 (HS.out HP.out).symm,az C H⟩
   |false=>
    rw[J]at O;have HP:=H_ J;clear J;go_wp2_with fail;rw[HF.out,Oper.upon_enter];refine O.mono ?_;rintro e I ⟨rfl,H⟩;go_wp2;go_roundw
    case rel=>exact⟨k+1,o_,by go_num,H_ (by rw[HT.out,Q.out,HP.out];rfl),az C H⟩
    case measure=>simp[intOf];omega
  ·have E:fidx P fs=-1:=bj1 (by
    have a1:=Q.out
    rwa [g_ o_]at a1)
   have HA:=H_ E;clear E;go_wp2;go_ret;exact⟨aw2 HA.out.symm,C⟩
theorem xx3 (K:Nat) (hF:∀args w,(callFunc K args).run prog w=.ok (.enter K args) w) (cap:Array Value) (P:It->Bool) (A:Option Addr) (n c:Nat) (l:List It) (w:World) (hn:n<=1000000) (hr:Row w.heap.size w A n 5 (itc l))
  (hK:∀x H,Below w.heap.size w H->Calls prog K (#[x.val] ++cap) H fun e w'=>e=.returned (.bool (P x))/\Below H.heap.size H w'):
  Calls prog 184 #[.slice A n c,.func (.func K) #[] cap] w fun e w'=>e=.returned (.int .i64 (fidx P l))/\Below w.heap.size w w':=by
 have a6:=hr.qj;have HK:=H_ hK;have HF:=H_ hF;clear hK hF;go_enter func184,ntmps184;go_wp2
 go_loopw [8] (fun i wr=>∃k:Nat,k<=n/\i=.int .i64 (k:Int)/\Hid ((l.take k).any P=false)/\Below w.heap.size w wr) (fun i _=>n - (intOf i).toNat)
 case atStart=>exact⟨0,w_ _,rfl,H_ rfl,Below.refl _ _⟩
 case round=>
  obtain⟨k,hk,rfl,J,C⟩:=hrel
  by_cases O:k < n
  ·obtain⟨a,Q,rfl,a9,c0,c1,c2,c3,c4⟩:=(hr.below C).it O
   have ht:=kv1 (P:=P) Q;have hs:=fun h1=>iq1 (P:=P) Q J.out h1;generalize l[k]=f at *;have HT:=H_ ht;have HS:=H_ hs;clear ht hs Q;have U:=HK.out f wr C;unfold It.val at U;generalize hp:P f=p at U;have HP:=H_ hp;clear hp;go_wp2_with fail;rw[HF.out,Oper.upon_enter];refine U.mono ?_;rintro e H ⟨rfl,I⟩
   cases p with
   |true=>
    go_wp2;go_ret;exact⟨aw2 (HS.out HP.out).symm,az C I⟩
   |false=>
    go_wp2;go_roundw
    case rel=>exact⟨k+1,o_,by go_num,H_ (by rw[HT.out,J.out,HP.out];rfl),az C I⟩
    case measure=>simp[intOf];omega
  ·have E:fidx P l=-1:=bj1 (by
    have Z:=J.out
    rwa [g_ o_]at Z)
   have HA:=H_ E;clear E;go_wp2;go_ret;exact⟨aw2 HA.out.symm,C⟩
theorem cx2 (K:Nat) (hF:∀args w,(callFunc K args).run prog w=.ok (.enter K args) w) (cap:Array Value) (P:It->Bool) (A:Option Addr) (n c:Nat) (l:List It) (w:World) (O:n<=1000000) (Q:Row w.heap.size w A n 5 (itc l))
  (I:∀x C,Below w.heap.size w C->Calls prog K (#[x.val] ++cap) C fun e w'=>e=.returned (.bool (P x))/\Below C.heap.size C w'):
  Calls prog 122 #[.slice A n c,.func (.func K) #[] cap] w fun e w'=>e=.returned (.bool (l.any P))/\Below w.heap.size w w':=by
 have E:=ij2 P l;have J:=xx3 K hF cap P A n c l w O Q I;clear I;generalize fidx P l=i at *;have H:=H_ E;clear E;go_enter func122,ntmps122;go_wp2_with fail;refine J.mono ?_;rintro e C ⟨rfl,U⟩;clear J;go_wp2;go_ret;exact⟨kk1 H.out,U⟩
theorem wx2 (l:List It):l.any (fun x=>!x.ok)= !l.all It.ok:=by
 induction l with
 |nil=>rfl
 |cons a l C=>simp[C,Bool.not_and]
theorem ej4 {l:List It} {j:Nat} (h:j+1 < l.length):decide (qx (l.take (j+2)))=(decide (qx (l.take (j+1))) &&It.less l[j] l[j+1]):=by
 have e:l.take (j+2)=l.take (j+1)++[l[j+1]]:=r_ h;have iff:qx (l.take (j+2))↔qx (l.take (j+1))/\It.less l[j] l[j+1]=true:=by
  rw[e];unfold qx;rw[aO_];constructor
  ·rintro⟨h1,_,h2⟩
   exact⟨h1,h2 _ (aF_.2 ⟨j,o_,rfl⟩) _ s_⟩
  ·rintro⟨h1,h2⟩
   refine⟨h1,a4_ _ _,fun a C b E=>?_⟩;obtain rfl:b=l[j+1]:=by simpa using E
   obtain⟨i,hi,rfl⟩:=aF_.1 C
   rcases ah_ i j with h3|h3
   ·have h4:=ap_.1 h1 i j (by simp;omega) (by simp;omega) h3
    simp only[List.getElem_take]at h4;exact It.cz1 h4 h2
   ·have:i=j:=o_
    subst this;exact h2
 cases h3:It.less l[j] l[j+1] <;>simp[iff,h3]
theorem jz4 {l:List It} {k:Nat} (h:decide (qx (l.take k))=false):decide (qx l)=false:=by
 simp only[decide_eq_false_iff_not]at h ⊢;exact fun h2=>h (h2.sublist (cl_ _ _))
theorem jj5 (a:It) (w:World):Calls prog 134 #[a.val] w fun e w'=>e=.returned (.bool (!a.ok))/\Below w.heap.size w w':=by
 have C:=fun W=>sk1 a W;unfold It.val at C ⊢;go_enter func134,ntmps134;go_wp2_with fail;refine(C _).mono ?_;rintro e H ⟨rfl,E⟩;go_wp2;go_ret;exact⟨rfl,az (b_ _ _) E⟩
theorem gj5 (a:It) (w:World):Calls prog 123 #[a.val] w fun e w'=>e=.returned (.bool (!a.ok))/\Below w.heap.size w w':=by
 have C:=fun W=>sk1 a W;unfold It.val at C ⊢;go_enter func123,ntmps123;go_wp2_with fail;refine(C _).mono ?_;rintro e H ⟨rfl,E⟩;go_wp2;go_ret;exact⟨rfl,az (b_ _ _) E⟩
theorem az4 (a:It) (w:World):Calls prog 207 #[a.val] w fun e w'=>e=.returned (.bool (!a.ok))/\Below w.heap.size w w':=by
 have C:=fun W=>sk1 a W;unfold It.val at C ⊢;go_enter func207,ntmps207;go_wp2_with fail;refine(C _).mono ?_;rintro e H ⟨rfl,E⟩;go_wp2;go_ret;exact⟨rfl,az (b_ _ _) E⟩
theorem xq2 (A:Option Addr) (n c:Nat) (l:List It) (w:World) (E:n<=1000000) (H:Row w.heap.size w A n 5 (itc l)):
  Calls prog 59 #[.slice A n c] w fun e w'=>e=.returned (.bool (l.all It.ok))/\Below w.heap.size w w':=by
 have h:=cx2 134 (fun _ _=>rfl) #[] (fun x=>!x.ok) A n c l w E H (fun x C _=>jj5 x C);rw[wx2]at h;go_enter func59,ntmps59;go_wp2_with fail;refine h.mono ?_;rintro e C ⟨rfl,I⟩;clear h;go_wp2;go_ret;exact⟨ik s_,I⟩
theorem kz45 {P S a oi v} (h:Hv P S a oi v:=by intro w C;(obtain⟨c0,c1,c2,c3,c4,d0,d1,d2,d3,d4⟩:=KC.out w C);go_simp;try (with_reducible rfl)):Hv P S a oi v:=h
theorem rq2 (A:Option Addr) (n c:Nat) (l:List It) (w:World) (hn:n<=1000000) (hr:Row w.heap.size w A n 5 (itc l)):
  Calls prog 206 #[.slice A n c] w fun e w'=>e=.returned (.bool (decide (qx l)))/\Below w.heap.size w w':=by
 have b6:=hr.qj;go_enter func206,ntmps206;go_wp2
 go_loopw [3] (fun i wr=>∃j k:Nat,Hid (k=j+1)/\(j+1<=n\/j=0)/\i=.int .i64 (k:Int)/\Hid (decide (qx (l.take (j+1)))=true)/\Below w.heap.size w wr) (fun i _=>n - (intOf i).toNat)
 case atStart=>exact⟨0,1,H_ rfl,.inr rfl,rfl,H_ (by
  cases l with
  |nil=>rfl
  |cons a r=>simp[qx]),Below.refl _ _⟩
 case round=>
  obtain⟨j,k,O,hj,rfl,hR,E⟩:=hrel
  by_cases b7:k < n
  ·have Q:j+1 < n:=by have:=O.out;omega
   obtain⟨a,hl,rfl,U,c0,c1,c2,c3,c4⟩:=(hr.below E).it (k:=j) o_;obtain⟨a2,b8,ea,b1,hd⟩:=(hr.below E).it Q;injection ea with ea;subst ea;have ht:=ej4 (l:=l) (j:=j) o_;rw[hR.out,cm_]at ht;have I:=fun h=>jz4 (l:=l) (k:=j+2) h;generalize l[j]=x at *;generalize l[j+1]=y at *;rw[<-O.out]at hd;have a7:(k:Int) - 1=(j:Int):=by have:=O.out;omega
   have b9:IntKind.i64.wrap (j:Int)=(j:Int):=D_ _ o_;have b':(j:Int) < (n:Int):=o_
   have H:=fun W=>fz1 x y W;unfold It.val at H;obtain⟨b,Z⟩:=n_ (x.less y);rw[<-Z]at H ht;have a0:∀w',Below wr.heap.size wr w'->w'.cell? (a.add (j *5))=some (.int .i64 x.s)/\w'.cell? ⟨(a.add (j *5)).block,(a.add (j *5)).off+1,none⟩=some (.int .i64 x.k)/\w'.cell? ⟨(a.add (j *5)).block,(a.add (j *5)).off+2,none⟩=some (.int .u64 (x.t:Int))/\w'.cell? ⟨(a.add (j *5)).block,(a.add (j *5)).off+3,none⟩=some (.int .u64 (x.v:Int))/\w'.cell? ⟨(a.add (j *5)).block,(a.add (j *5)).off+4,none⟩=some (.int .i64 x.x)/\
     w'.cell? (a.add (k *5))=some (.int .i64 y.s)/\w'.cell? ⟨(a.add (k *5)).block,(a.add (k *5)).off+1,none⟩=some (.int .i64 y.k)/\w'.cell? ⟨(a.add (k *5)).block,(a.add (k *5)).off+2,none⟩=some (.int .u64 (y.t:Int))/\w'.cell? ⟨(a.add (k *5)).block,(a.add (k *5)).off+3,none⟩=some (.int .u64 (y.v:Int))/\w'.cell? ⟨(a.add (k *5)).block,(a.add (k *5)).off+4,none⟩=some (.int .i64 y.x):=fun w' Z=>by
    have h1:=ItAt.below (B:=wr.heap.size) (w':=w') ⟨c0,c1,c2,c3,c4⟩ (N_ U E.size) Z;have h2:=hd.below (B:=wr.heap.size) (w':=w') (N_ U E.size) Z;exact⟨h1.c0,h1.c1,h1.c2,h1.c3,h1.c4,h2.c0,h2.c1,h2.c2,h2.c3,h2.c4⟩
   have c9:IntKind.i64.wrap ((k:Int) - 1)=(j:Int):=by rw[a7];exact D_ _ o_
   have KC:=H_ a0;have HL:=H_ H;have HT:=H_ ht;have HO:=H_ I;clear a0 H ht I Z hd c0 c1 c2 c3 c4;go_wp2_with fail;refine w_h wr fun C=>?_;refine w_v 0 C ?_ (k:=kz45);go_simp;refine w_v 1 C ?_ (k:=kz45);go_simp;refine w_v 2 C ?_ (k:=kz45);go_simp;refine w_v 3 C ?_ (k:=kz45);go_simp;refine w_v 4 C ?_ (k:=kz45);go_simp;refine w_v 5 C ?_ (k:=kz45);go_simp;refine w_v 6 C ?_ (k:=kz45);go_simp;refine w_v 7 C ?_ (k:=kz45);go_simp;refine w_v 8 C ?_ (k:=kz45);go_simp;refine w_r 9 fun K hK=>?_;go_simp
   with_reducible refine(HL.out _).mono ?_
   rintro e w1 ⟨rfl,a8⟩;go_simp;refine hK.out _ _ (C.trans (a8.mono C.size)) ?_;clear C hK K;intro C;go_simp;refine w_v 10 C ?_ (k:=kz45);go_simp;refine w_d ?_;have a1:=E.trans (C.mono E.size);clear C KC HL
   cases b with
   |true=>
    go_wp2;go_roundw
    case rel=>exact⟨k,k+1,H_ rfl,.inl o_,by go_num,H_ (by rw[O.out];exact HT.out),a1⟩
    case measure=>simp[intOf];omega
   |false=>
    go_wp2;go_ret;exact⟨ik (HO.out HT.out).symm,a1⟩
  ·have J:decide (qx l)=true:=by
    have:=hR.out
    rwa [g_ (by have:=O.out;omega)]at this
   have HF:=H_ J;clear J;go_wp2;go_ret;exact⟨ik HF.out.symm,E⟩
theorem mj5 (K:Nat) (hF:∀args w,(callFunc K args).run prog w=.ok (.enter K args) w) (p:Addr) (P:Int×Int->Bool) (A:Option Addr) (n c:Nat) (fs:List (Int×Int)) (w:World) (O:n<=1000000) (Q:Row w.heap.size w A n 2 (dw fs))
  (I:∀f C,Below w.heap.size w C->Calls prog K #[.agg #[.int .i64 f.1,.int .i64 f.2],.pointer (some p)] C fun e w'=>e=.returned (.bool (P f))/\Below C.heap.size C w'):
  Calls prog 228 #[.slice A n c,.func (.func K) #[] #[.pointer (some p)]] w fun e w'=>e=.returned (.bool (fs.any P))/\Below w.heap.size w w':=by
 have E:=ij2 P fs;have J:=uk3 K hF p P A n c fs w O Q I;clear I;generalize fidx P fs=i at *;have H:=H_ E;clear E;go_enter func228,ntmps228;go_wp2_with fail;refine J.mono ?_;rintro e C ⟨rfl,U⟩;clear J;go_wp2;go_ret;exact⟨kk1 H.out,U⟩
theorem hj5 (A:Option Addr) (n c:Nat) (fs:List (Int×Int)) (w:World) (hn:n<=1000000) (hr:Row w.heap.size w A n 2 (dw fs)):
  Calls prog 228 #[.slice A n c,.func (.func 272) #[] #[]] w fun e w'=>e=.returned (.bool (fs.any fun f=>!xq f))/\Below w.heap.size w w':=by
 have E:Calls prog 234 #[.slice A n c,.func (.func 272) #[] #[]] w fun e w'=>e=.returned (.int .i64 (fidx (fun f=>!xq f) fs))/\Below w.heap.size w w':=by
  obtain⟨P,hP⟩:∃P:Int×Int->Bool,P=fun f=>!xq f:=⟨_,rfl⟩;have hK:∀f H,Calls prog 272 #[.agg #[.int .i64 f.1,.int .i64 f.2]] H fun e w'=>e=.returned (.bool (P f))/\Below H.heap.size H w':=fun f H=>by rw[hP];exact zy4 f H
  rw[<-hP];have a':=hr.flen;have HK:=H_ hK;clear hK hP;go_enter func234,ntmps234;go_wp2
  go_loopw [8] (fun i wr=>∃k:Nat,k<=n/\i=.int .i64 (k:Int)/\Hid ((fs.take k).any P=false)/\Below w.heap.size w wr) (fun i _=>n - (intOf i).toNat)
  case atStart=>exact⟨0,w_ _,rfl,H_ rfl,Below.refl _ _⟩
  case round=>
   obtain⟨k,hk,rfl,Q,C⟩:=hrel
   by_cases a1:k < n
   ·obtain⟨a,hl,rfl,b1,c0,c1⟩:=(hr.below C).file a1
    have ht:=kv1 (P:=P) hl;have hs:=fun h1=>iq1 (P:=P) hl Q.out h1;generalize fs[k]=f at *;have HT:=H_ ht;have HS:=H_ hs;clear ht hs hl;have Z:=HK.out f wr
    cases O:P f with
    |true=>
     rw[O]at Z;have HP:=H_ O;clear O;go_wp2_with fail;refine Z.mono ?_;rintro e H ⟨rfl,J⟩;go_wp2;go_ret;exact⟨aw2 (HS.out HP.out).symm,az C J⟩
    |false=>
     rw[O]at Z;have HP:=H_ O;clear O;go_wp2_with fail;refine Z.mono ?_;rintro e H ⟨rfl,J⟩;go_wp2;go_roundw
     case rel=>exact⟨k+1,o_,by go_num,H_ (by rw[HT.out,Q.out,HP.out];rfl),az C J⟩
     case measure=>simp[intOf];omega
   ·have I:fidx P fs=-1:=bj1 (by
     have a5:=Q.out
     rwa [g_ o_]at a5)
    have HA:=H_ I;clear I;go_wp2;go_ret;exact⟨aw2 HA.out.symm,C⟩
 have U:=ij2 (fun f=>!xq f) fs;generalize fidx (fun f=>!xq f) fs=i at *;have a6:=H_ U;clear U;go_enter func228,ntmps228;go_wp2_with fail;refine E.mono ?_;rintro e H ⟨rfl,Q⟩;clear E;go_wp2;go_ret;exact⟨kk1 a6.out,Q⟩
theorem cz5 (A:Option Addr) (n c:Nat) (ns:List Int) (w:World) (hn:n<=1000000) (hr:Row w.heap.size w A n 1 (uw ns)):
  Calls prog 270 #[.slice A n c,.func (.func 271) #[] #[]] w fun e w'=>e=.returned (.bool (ns.any fun f=>!isNum f))/\w=w':=by
 have C:Calls prog 305 #[.slice A n c,.func (.func 271) #[] #[]] w fun e w'=>e=.returned (.int .i64 (fidx (fun f=>!isNum f) ns))/\w=w':=by
  obtain⟨P,Q⟩:∃P:Int->Bool,P=fun f=>!isNum f:=⟨_,rfl⟩;have hK:∀f H,Calls prog 271 #[.int .i64 f] H fun e w'=>e=.returned (.bool (P f))/\H=w':=fun f H=>by rw[Q];exact bj5 f H
  rw[<-Q];have a8:=hr.ilen;have HK:=H_ hK;clear hK Q;go_enter func305,ntmps305;go_wp2
  go_loop [8] (fun i=>∃k:Nat,k<=n/\i=.int .i64 (k:Int)/\Hid ((ns.take k).any P=false)) (fun i=>n - (intOf i).toNat)
  case atStart=>exact⟨0,w_ _,rfl,H_ rfl⟩
  case round=>
   obtain⟨k,hk,rfl,U⟩:=hrel
   by_cases Z:k < n
   ·obtain⟨a,hl,rfl,a',c0⟩:=hr.int_ Z
    have ht:=kv1 (P:=P) hl;have hs:=fun h1=>iq1 (P:=P) hl U.out h1;generalize ns[k]=f at *;have HT:=H_ ht;have HS:=H_ hs;clear ht hs hl;have O:=HK.out f w
    cases I:P f with
    |true=>
     rw[I]at O;have HP:=H_ I;clear I;go_wp2_with fail;refine O.mono ?_;rintro e H ⟨rfl,rfl⟩;go_wp2;go_ret;exact⟨aw2 (HS.out HP.out).symm,rfl⟩
    |false=>
     rw[I]at O;have HP:=H_ I;clear I;go_wp2_with fail;refine O.mono ?_;rintro e H ⟨rfl,rfl⟩;go_wp2
     go_round
     case rel=>exact⟨k+1,o_,by go_num,H_ (by rw[HT.out,U.out,HP.out];rfl)⟩
     case measure=>simp[intOf];omega
   ·have E:fidx P ns=-1:=bj1 (by
     have a2:=U.out
     rwa [g_ o_]at a2)
    have HA:=H_ E;clear E;go_wp2;go_ret;exact⟨aw2 HA.out.symm,rfl⟩
 have J:=ij2 (fun f=>!isNum f) ns;generalize fidx (fun f=>!isNum f) ns=i at *;have a4:=H_ J;clear J;go_enter func270,ntmps270;go_wp2_with fail;refine C.mono ?_;rintro e H ⟨rfl,rfl⟩;clear C;go_wp2;go_ret;exact⟨kk1 a4.out,rfl⟩
theorem az3 (a b c d:Nat):bj3 a b c d= !bigs [a,b,c,d]:=by
 rw[cb_];simp[bj3,bigs];omega
theorem ik2:∀fs:List (Int×Int),apart fs=true↔fs.Pairwise fun f g=>g.2≠f.2
 |[]=>by simp[apart]
 |f::r=>by
  rw[apart,U_,G_,ik2 r];simp
theorem gq4 (fs:List (Int×Int)):(fs.all xq&&apart fs)=true↔∀k (h:k < fs.length),xq fs[k]=true/\(fs.take k).any (fun g=>g.2==(fs[k]).2)=false:=by
 rw[G_,ik2,ab_,ap_];constructor
 ·rintro⟨h1,h2⟩ k C
  refine⟨h1 _ (u_ C),?_⟩;rw[X_];intro g E;obtain⟨i,hi,rfl⟩:=aF_.1 E;have:=h2 i k o_ C o_;simp only[beq_iff_eq];exact fun e=>this e.symm
 ·intro h
  refine⟨fun f H=>?_,fun i j hi hj I=>?_⟩
  ·obtain⟨k,C,rfl⟩:=aX_ H
   exact(h k C).1
  ·have:=X_.1 (h j hj).2 fs[i] (aF_.2 ⟨i,o_,rfl⟩)
   simp only[beq_iff_eq]at this;exact fun e=>this e.symm
def Vw.val (v:Vw) (A:Option Addr) (n c:Nat):Value:=.agg #[.int .i64 v.log,.slice A n c,.int .u64 (v.floor:Int),.int .u64 (v.cert:Int),.int .u64 (v.at_:Int),.int .u64 (v.lease:Int)]
def Ed.val (e:Ed) (D:Option Addr) (m d:Nat) (A:Option Addr) (n c:Nat):Value:=.agg #[.slice D m d,.slice A n c,.int .i64 e.log,.int .u64 (e.floor:Int),.int .u64 (e.cert:Int),.int .u64 (e.at_:Int),.int .u64 (e.lease:Int)]
theorem ow5 (v:Vw) (A:Option Addr) (n c:Nat) (w:World) (hn:n<=1000000) (e3:n<=c) (_hcm:c<=maxLen) (hr:Row w.heap.size w A n 2 (dw v.files)):
  Calls prog 173 #[v.val A n c] w fun e w'=>e=.returned (.bool v.ok)/\Below w.heap.size w w':=by
 obtain⟨g,fs,f,Q,a,l⟩:=v;obtain⟨b,O⟩:=n_ (Vw.ok ⟨g,fs,f,Q,a,l⟩);have b6:=hr.flen;rw[<-O];unfold Vw.ok at O;simp only at O hr b6;rw[az3,b6,Bool.and_assoc _ _ (apart fs)]at O;unfold Vw.val;simp only;have E:=vy1 g
 cases h1:isNum g with
 |false=>
  rw[h1]at O E;have HB:=H_ O;clear O h1;go_enter func173,ntmps173;go_wp2_with fail;refine(E _).mono ?_;rintro e w1 ⟨rfl,rfl⟩;go_wp2;go_ret;exact⟨kk1 HB.out.symm,b_ _ _⟩
 |true=>
  rw[h1]at O E
  by_cases h2:n<=40
  ·cases h3:bigs [f,Q,a,l] with
   |true=>
    rw[h3]at O;have HB:=H_ O;clear O h1;have HX:=H_ h3;clear h3;go_enter func173,ntmps173;go_wp2_with fail;refine(E _).mono ?_;rintro e w1 ⟨rfl,rfl⟩;clear E;have hrow:=uv2 (w.alloc (.cells #[.int .i64 g,.slice A n c,.int .u64 (f:Int),.int .u64 (Q:Int),.int .u64 (a:Int),.int .u64 (l:Int)] 121)) 27 #[.int .u64 (f:Int),.int .u64 (Q:Int),.int .u64 (a:Int),.int .u64 (l:Int)] [f,Q,a,l] 4 rfl rfl;have C:=tz2 _ 4 4 [f,Q,a,l] _ o_ hrow;rw[HX.out]at C;simp only[Q_,ca_]at C;clear hrow;go_wp2_with fail;refine C.mono ?_;rintro e w1 ⟨rfl,rfl⟩;clear C;go_wp2;go_ret;exact⟨kk1 (HB.out.trans s_).symm,(b_ _ _).alloc s_ _⟩
   |false=>
    rw[h3]at O;have J:=gq4 fs;have b9:b=(fs.all xq&&apart fs):=by rw[O];simp[h2]
    rw[<-b9]at J;have HG:=H_ J;clear O h1 J b9;have HX:=H_ h3;clear h3;go_enter func173,ntmps173;go_wp2_with fail;refine(E _).mono ?_;rintro e w1 ⟨rfl,rfl⟩;clear E;have hrow:=uv2 (w.alloc (.cells #[.int .i64 g,.slice A n c,.int .u64 (f:Int),.int .u64 (Q:Int),.int .u64 (a:Int),.int .u64 (l:Int)] 121)) 27 #[.int .u64 (f:Int),.int .u64 (Q:Int),.int .u64 (a:Int),.int .u64 (l:Int)] [f,Q,a,l] 4 rfl rfl;have C:=tz2 _ 4 4 [f,Q,a,l] _ o_ hrow;rw[HX.out]at C;simp only[Q_,b5_]at C;clear hrow;go_wp2_with fail;refine C.mono ?_;rintro e w1 ⟨rfl,rfl⟩;clear C;have a8:=(BoxO.new w #[.int .i64 g,.slice A n c,.int .u64 (f:Int),.int .u64 (Q:Int),.int .u64 (a:Int),.int .u64 (l:Int)] 121).alloc (.cells #[.int .u64 (f:Int),.int .u64 (Q:Int),.int .u64 (a:Int),.int .u64 (l:Int)] 27);have a9:=(b_ w (.cells #[.int .i64 g,.slice A n c,.int .u64 (f:Int),.int .u64 (Q:Int),.int .u64 (a:Int),.int .u64 (l:Int)] 121)).alloc s_ (.cells #[.int .u64 (f:Int),.int .u64 (Q:Int),.int .u64 (a:Int),.int .u64 (l:Int)] 27);go_wp2
    go_loopw [31] (fun i wr=>∃k:Nat,k<=n/\i=.int .i64 (k:Int)/\Hid (∀j (h:j < fs.length),j < k->xq fs[j]=true/\(fs.take j).any (fun g=>g.2==(fs[j]).2)=false)/\
     BoxO wr 121 w.heap.size [.int .i64 g,.slice A n c,.int .u64 (f:Int),.int .u64 (Q:Int),.int .u64 (a:Int),.int .u64 (l:Int)]/\Below w.heap.size w wr) (fun i _=>n - (intOf i).toNat)
    case atStart=>exact⟨0,w_ _,rfl,H_ (fun j h hj=>o_),a8,a9⟩
    case round=>
     obtain⟨k,hk,rfl,J,b0,U⟩:=hrel;clear a8 a9
     by_cases d7:k < n
     ·have b1:=(hr.pre (m:=k) hk).below U
      rw[<-jw1]at b1;obtain⟨ad,hl,rfl,e6,c0,c1⟩:=(hr.below U).file d7;have a5:xq fs[k]=false->b=false:=fun h=>by
       cases b with
       |false=>rfl
       |true=>have:=(HG.out.1 rfl k hl).1;rw[h]at this;cases this
      have Z:(fs.take k).any (fun g=>g.2==(fs[k]).2)=true->b=false:=fun h=>by
       cases b with
       |false=>rfl
       |true=>have:=(HG.out.1 rfl k hl).2;rw[h]at this;cases this
      have a0:xq fs[k]=true->(fs.take k).any (fun g=>g.2==(fs[k]).2)=false->∀j (h:j < fs.length),j < k+1->xq fs[j]=true/\(fs.take j).any (fun g=>g.2==(fs[j]).2)=false:=fun e1 e2 j hj e'=>by
       rcases ah_ j k with h|h
       ·exact J.out j hj h
       ·obtain rfl:j=k:=o_
        exact⟨e1,e2⟩
      generalize fs[k]=x at *;obtain⟨ps,c9⟩:=n_ (fs.take k);rw[<-c9]at Z a0 b1;have H1:=H_ a5;have H2:=H_ Z;have H3:=H_ a0;clear a5 Z a0 J c9 HG HX hl;have q1:=b0.c1;have H:=pv2 x
      cases hx:xq x with
      |false=>
       rw[hx]at H;have HF:=H_ hx;clear hx;go_wp2_with fail;refine(H _).mono ?_;rintro e w1 ⟨rfl,a6⟩;have a1:=az (U.alloc U.size (.cells #[.int .i64 x.1,.int .i64 x.2] 89)) a6;clear H;go_wp2;go_ret;exact⟨kk1 (H1.out HF.out).symm,a1⟩
      |true=>
       rw[hx]at H;have HF:=H_ hx;clear hx;go_wp2_with fail;refine(H _).mono ?_;rintro e w1 ⟨rfl,a6⟩;have d0:=Below.alloc (Below.refl wr.heap.size wr) l_ (.cells #[.int .i64 x.1,.int .i64 x.2] 89);have a1:=az d0 a6;have d1:=b0.below a1;have d2:w1.cell? ⟨wr.heap.size,1,none⟩=some (.int .i64 x.2):=by
        rw[a6.cell (p:=⟨wr.heap.size,1,none⟩) s_];exact(BoxO.new wr #[.int .i64 x.1,.int .i64 x.2] 89).cell 1
       have b2:=az U a1;have d3:=(b1.below (a1.mono U.size)).up b2.size;have d4:=M_ w1 _ d2;clear H a6 d0 a1 b0 q1 c0 c1;have q1:=d1.c1;have a2:=mj5 229 (fun _ _=>rfl) ⟨wr.heap.size,0,none⟩ (fun f=>f.2==x.2) (some ad) k c ps w1 o_ d3 (fun f w2 a4=>rz5 f wr.heap.size x.2 w2 ((a4.cell (p:=⟨wr.heap.size,1,none⟩) d4).trans d2))
       cases I:ps.any (fun f=>f.2==x.2) with
       |true=>
        rw[I]at a2;have HY:=H_ I;clear I;go_wp2_with fail;refine a2.mono ?_;rintro e w2 ⟨rfl,a4⟩;have b3:=az b2 a4;clear a2;go_wp2;go_ret;exact⟨kk1 (H2.out HY.out).symm,b3⟩
       |false=>
        rw[I]at a2;have HY:=H_ I;clear I;go_wp2_with fail;refine a2.mono ?_;rintro e w2 ⟨rfl,a4⟩;have b3:=az b2 a4;have e0:=d1.below a4;clear a2;go_wp2;go_roundw
        case rel=>exact⟨k+1,o_,by go_num,H_ (H3.out HF.out HY.out),e0,b3⟩
        case measure=>simp[intOf];omega
     ·have a':b=true:=HG.out.2 (fun j hj=>J.out j hj o_)
      have HF:=H_ a';clear a' J HG HX;go_wp2;go_ret;exact⟨kk1 HF.out.symm,U⟩
  ·have d5:b=false:=by rw[O];simp[h2]
   have HB:=H_ d5;clear O h1 d5;go_enter func173,ntmps173;go_wp2_with fail;refine(E _).mono ?_;rintro e w1 ⟨rfl,rfl⟩;go_wp2;go_ret;exact⟨kk1 HB.out.symm,b_ _ _⟩
theorem iy2 {l:List It} (h:qx l) (x:It) {k:Nat} (C:k < l.length):It.less l[k] x=decide (k < pos l x):=by
 obtain⟨h1,h2⟩:=cw2 h x
 rcases ah_ k (pos l x) with h3|h3
 ·have:l[k]∈l.take (pos l x):=aF_.2 ⟨k,o_,rfl⟩
  rw[h1]at this;simp[(P_.1 this).2,h3]
 ·have:l[k]∈l.drop (pos l x):=bE_.2 ⟨k - pos l x,by simp;omega,by simp[Nat.add_sub_cancel' h3]⟩
  rw[h2]at this;have h4:=(P_.1 this).2;simp only[av_]at h4;rw[h4];simp;omega
def pcmp (a b:It):Int:=if a.less b=true then -1 else 1
theorem sk2 (a b:It) (w:World):Calls prog 245 #[a.val,b.val] w fun e w'=>e=.returned (.int .i64 (pcmp a b))/\Below w.heap.size w w':=by
 have C:=fun W=>fz1 a b W;have E:=(b_ w (.cells #[.int .i64 a.s,.int .i64 a.k,.int .u64 (a.t:Int),.int .u64 (a.v:Int),.int .i64 a.x] 49)).alloc s_ (.cells #[.int .i64 b.s,.int .i64 b.k,.int .u64 (b.t:Int),.int .u64 (b.v:Int),.int .i64 b.x] 49);unfold pcmp;unfold It.val at C ⊢;generalize a.less b=p at *;have J:=H_ C;clear C;go_enter func245,ntmps245;go_wp2_with fail;refine(J.out _).mono ?_;rintro e O ⟨rfl,H⟩;have I:=az E H
 cases p
 all_goals
  go_wp2;go_ret;exact⟨rfl,I⟩
theorem kz4 {P S a oi v} (h:Hv P S a oi v:=by intro w C;(obtain⟨⟨c0,c1,c2,c3,c4⟩,d0,d1,d2,d3,d4⟩:=KC.out w C);go_simp;try (with_reducible rfl)):Hv P S a oi v:=h
theorem kz5 {P S a oi v} (h:Hv P S a oi v:=by intro w C;skip;go_simp;try (with_reducible rfl)):Hv P S a oi v:=h
theorem fj3 (A:Option Addr) (n c:Nat) (l:List It) (x:It) (w:World) (hn:n<=1000000) (hR:qx l) (hr:Row w.heap.size w A n 5 (itc l)):
  Calls prog 244 #[.slice A n c,x.val,.func (.func 245) #[] #[]] w fun e w'=>e=.returned (.tuple #[.int .i64 (pos l x:Int),.bool false])/\Below w.heap.size w w':=by
 have b':=hr.qj;have b1:=cx3 l x;have I:=b_ w (.cells #[.int .i64 x.s,.int .i64 x.k,.int .u64 (x.t:Int),.int .u64 (x.v:Int),.int .i64 x.x] 49);have a0:=BoxO.new w #[.int .i64 x.s,.int .i64 x.k,.int .u64 (x.t:Int),.int .u64 (x.v:Int),.int .i64 x.x] 49;obtain⟨r,a1⟩:=n_ (pos l x);rw[<-a1]at b1 ⊢;have a7:=H_ a1;clear a1;unfold It.val;go_enter func244,ntmps244;go_wp2_with fail;generalize w.alloc (.cells #[.int .i64 x.s,.int .i64 x.k,.int .u64 (x.t:Int),.int .u64 (x.v:Int),.int .i64 x.x] 49)=V at *;obtain⟨g,hg⟩:=n_ w.heap.size;rw[<-hg]at a0 ⊢;clear hg
 go_loopw [9,10] (fun i j wr=>∃p q:Nat,p<=r/\r<=q/\q<=n/\i=.int .i64 (p:Int)/\j=.int .i64 (q:Int)/\Below V.heap.size V wr) (fun i j _=>(intOf j).toNat - (intOf i).toNat)
 case atStart=>exact⟨0,n,w_ _,o_,y_ _,rfl,rfl,Below.refl _ _⟩
 case round=>
  obtain⟨p,q,hp,hq,b2,rfl,rfl,H⟩:=hrel;have a2:∀w',Below wr.heap.size wr w'->Below V.heap.size V w':=fun w' h=>H.trans (h.mono H.size)
  by_cases d5:p < q
  ·obtain⟨m,hm⟩:=n_ ((p+q) / 2)
   have d7:p<=m/\m < q:=o_
   have d8:(m:Int) < (n:Int):=o_
   have d9:IntKind.i64.wrap (m:Int)=(m:Int):=D_ _ o_;have b3:=H_ (show ((p:Int)+(q:Int)) / 2=(m:Int) by omega);clear hm;obtain⟨a,hl,rfl,a4,hd⟩:=((hr.below I).up I.size|>.below H).it (k:=m) o_;have O:=iy2 hR x hl;generalize l[m]=y at *;have E:=fun W=>sk2 y x W;unfold It.val pcmp at E;rw[O]at E;have Q:∀w',Below wr.heap.size wr w'->(w'.cell? (a.add (m *5))=some (.int .i64 y.s)/\w'.cell? ⟨(a.add (m *5)).block,(a.add (m *5)).off+1,none⟩=some (.int .i64 y.k)/\w'.cell? ⟨(a.add (m *5)).block,(a.add (m *5)).off+2,none⟩=some (.int .u64 (y.t:Int))/\w'.cell? ⟨(a.add (m *5)).block,(a.add (m *5)).off+3,none⟩=some (.int .u64 (y.v:Int))/\w'.cell? ⟨(a.add (m *5)).block,(a.add (m *5)).off+4,none⟩=some (.int .i64 y.x))/\w'.cell? ⟨g,0,none⟩=some (.int .i64 x.s)/\w'.cell? ⟨g,1,none⟩=some (.int .i64 x.k)/\w'.cell? ⟨g,2,none⟩=some (.int .u64 (x.t:Int))/\w'.cell? ⟨g,3,none⟩=some (.int .u64 (x.v:Int))/\w'.cell? ⟨g,4,none⟩=some (.int .i64 x.x):=fun w' U=>by
    have h1:=hd.below (B:=wr.heap.size) (w':=w') (N_ a4 H.size) U;have h2:=(a0.below H).below U;exact⟨⟨h1.c0,h1.c1,h1.c2,h1.c3,h1.c4⟩,h2.cell 0,h2.cell 1,h2.cell 2,h2.cell 3,h2.cell 4⟩
   have KC:=H_ Q;have Z:=H_ E;clear Q E hd O;rw[<-a7.out]at Z;obtain⟨b,U⟩:=n_ (decide (m < r));rw[<-U]at Z;go_wp2_with fail;rw[b3.out];refine w_h wr fun C=>?_;refine w_v 0 C ?_ (k:=kz4);go_simp;refine w_v 1 C ?_ (k:=kz4);go_simp;refine w_v 2 C ?_ (k:=kz4);go_simp;refine w_v 3 C ?_ (k:=kz4);go_simp;refine w_v 4 C ?_ (k:=kz4);go_simp;refine w_v 5 C ?_ (k:=kz4);go_simp;refine w_r 6 fun K hK=>?_;go_simp
   with_reducible refine(Z.out _).mono ?_
   rintro e w1 ⟨rfl,a5⟩;go_simp;refine hK.out _ _ (C.trans (a5.mono C.size)) ?_;clear C hK K;intro C;go_simp;refine w_v 7 C ?_ (k:=kz4);go_simp;refine w_d ?_;have J:=a2 _ C;clear C KC Z
   cases b with
   |true=>
    have b6:m < r:=by simpa using U.symm
    go_wp2;go_roundw
    case rel=>exact⟨m+1,q,o_,hq,b2,by go_num,rfl,J⟩
    case measure=>simp[intOf];omega
   |false=>
    have b6:¬m < r:=by simpa using U.symm
    go_wp2;go_roundw
    case rel=>exact⟨p,m,hp,o_,o_,rfl,rfl,J⟩
    case measure=>simp[intOf];omega
  ·have b7:p=r:=o_
   subst b7;have e0:((p:Int) < (q:Int))=False:=eq_false o_
   by_cases e1:p < n
   ·have a9:(p:Int) < (n:Int):=o_
    obtain⟨a,hl,rfl,a4,hd⟩:=((hr.below I).up I.size|>.below H).it (k:=p) o_;have O:=iy2 hR x hl;generalize l[p]=y at *;have E:=fun W=>sk2 y x W;unfold It.val pcmp at E;rw[O]at E;have Q:∀w',Below wr.heap.size wr w'->(w'.cell? (a.add (p *5))=some (.int .i64 y.s)/\w'.cell? ⟨(a.add (p *5)).block,(a.add (p *5)).off+1,none⟩=some (.int .i64 y.k)/\w'.cell? ⟨(a.add (p *5)).block,(a.add (p *5)).off+2,none⟩=some (.int .u64 (y.t:Int))/\w'.cell? ⟨(a.add (p *5)).block,(a.add (p *5)).off+3,none⟩=some (.int .u64 (y.v:Int))/\w'.cell? ⟨(a.add (p *5)).block,(a.add (p *5)).off+4,none⟩=some (.int .i64 y.x))/\w'.cell? ⟨g,0,none⟩=some (.int .i64 x.s)/\w'.cell? ⟨g,1,none⟩=some (.int .i64 x.k)/\w'.cell? ⟨g,2,none⟩=some (.int .u64 (x.t:Int))/\w'.cell? ⟨g,3,none⟩=some (.int .u64 (x.v:Int))/\w'.cell? ⟨g,4,none⟩=some (.int .i64 x.x):=fun w' U=>by
     have h1:=hd.below (B:=wr.heap.size) (w':=w') (N_ a4 H.size) U;have h2:=(a0.below H).below U;exact⟨⟨h1.c0,h1.c1,h1.c2,h1.c3,h1.c4⟩,h2.cell 0,h2.cell 1,h2.cell 2,h2.cell 3,h2.cell 4⟩
    have KC:=H_ Q;have Z:=H_ E;clear Q E hd O;rw[<-a7.out]at Z;simp only[Nat.lt_irrefl,decide_false,af_,if_false]at Z;go_wp2_with fail;refine w_h wr fun C=>?_;refine w_v 0 C ?_ (k:=kz4);go_simp;refine w_v 1 C ?_ (k:=kz4);go_simp;refine w_v 2 C ?_ (k:=kz4);go_simp;refine w_v 3 C ?_ (k:=kz4);go_simp;refine w_v 4 C ?_ (k:=kz4);go_simp;refine w_v 5 C ?_ (k:=kz4);go_simp;refine w_v 6 C ?_ (k:=kz4);go_simp;refine w_v 7 C ?_ (k:=kz4);go_simp;refine w_v 8 C ?_ (k:=kz4);go_simp;refine w_v 9 C ?_ (k:=kz4);go_simp;refine w_v 10 C ?_ (k:=kz4);go_simp;refine w_r 11 fun K hK=>?_;go_simp
    with_reducible refine(Z.out _).mono ?_
    rintro e w1 ⟨rfl,a5⟩;go_simp;refine hK.out _ _ (C.trans (a5.mono C.size)) ?_;clear C hK K;intro C;go_simp;refine w_v 12 C ?_ (k:=kz4);go_simp;refine w_v 13 C ?_ (k:=kz4);go_simp;refine w_v 14 C ?_ (k:=kz4);go_simp;refine w_v 15 C ?_ (k:=kz4);go_simp;refine w_d ?_;have J:=az I (a2 _ C);clear C KC Z;go_wp2;go_ret2;exact⟨rfl,J⟩
   ·have a9:((p:Int) < (n:Int))=False:=eq_false o_
    go_wp2_with fail;refine w_h wr fun C=>?_;refine w_v 0 C ?_ (k:=kz5);go_simp;refine w_v 1 C ?_ (k:=kz5);go_simp;refine w_v 2 C ?_ (k:=kz5);go_simp;refine w_v 3 C ?_ (k:=kz5);go_simp;refine w_v 4 C ?_ (k:=kz5);go_simp;refine wpT0 (i:=5) C ?_;go_simp;refine wpT0 (i:=6) C ?_;go_simp;refine wpT0 (i:=7) C ?_;go_simp;refine wpT0 (i:=8) C ?_;go_simp;refine wpT0 (i:=9) C ?_;go_simp;refine wpT0 (i:=10) C ?_;go_simp;refine wpT0 (i:=11) C ?_;go_simp;refine wpT0 (i:=12) C ?_;go_simp;refine w_v 13 C ?_ (k:=kz5);go_simp;refine w_v 14 C ?_ (k:=kz5);go_simp;refine w_v 15 C ?_ (k:=kz5);go_simp;refine w_d ?_;have J:=az I (a2 _ C);go_wp2;go_ret2;exact⟨rfl,J⟩
theorem iw3 {l:List It} (h:qx l) (x:It) (H:pos l x < l.length):It.same l[pos l x] x=l.any (fun y=>It.same y x):=by
 cases hs:It.same l[pos l x] x with
 |true=>exact(ay_.2 ⟨_,u_ _,hs⟩).symm
 |false=>
  symm
  rw[X_];intro y I C;obtain⟨i,hi,rfl⟩:=aX_ I;have h1:=iy2 h x hi;have h2:=iy2 h x H;rw[It.same_iff]at C;have h3:It.less l[i] x=false:=by rw[It.bz1];omega
  rw[h3]at h1;have h4:pos l x<=i:=by simpa using h1.symm
  rcases ah_ (pos l x) i with h5|h5
  ·have E:=ap_.1 h _ _ H hi h5
   have J:It.less l[pos l x] x=false:=by rw[h2];simp
   rw[It.uz]at E;rw[It.bz1]at J;omega
  ·have E:i=pos l x:=o_
   subst E;have:It.same l[pos l x] x=true:=by rw[It.same_iff];exact C
   rw[hs]at this
   cases this
theorem ey2 {l:List It} (h:qx l) (x:It) (H:¬pos l x < l.length):l.any (fun y=>It.same y x)=false:=by
 rw[X_];intro y E C;obtain⟨i,hi,rfl⟩:=aX_ E;have h1:=iy2 h x hi;rw[It.same_iff]at C;have h3:It.less l[i] x=false:=by rw[It.bz1];omega
 rw[h3]at h1;have h4:pos l x<=i:=by simpa using h1.symm
 omega
theorem dv3 (A:Option Addr) (n c:Nat) (l:List It) (x:It) (w:World) (hn:n<=1000000) (hR:qx l) (hr:Row w.heap.size w A n 5 (itc l)):
  Calls prog 190 #[.slice A n c,x.val] w fun e w'=>e=.returned (.tuple #[.int .i64 (pos l x:Int),.bool (l.any fun y=>y.same x)])/\Below w.heap.size w w':=by
 have b8:=hr.qj;have b9:=cx3 l x;have H:=b_ w (.cells #[.int .i64 x.s,.int .i64 x.k,.int .u64 (x.t:Int),.int .u64 (x.v:Int),.int .i64 x.x] 49);have Z:=BoxO.new w #[.int .i64 x.s,.int .i64 x.k,.int .u64 (x.t:Int),.int .u64 (x.v:Int),.int .i64 x.x] 49;have O:=fj3 A n c l x (w.alloc (.cells #[.int .i64 x.s,.int .i64 x.k,.int .u64 (x.t:Int),.int .u64 (x.v:Int),.int .i64 x.x] 49)) hn hR ((hr.below H).up H.size);unfold It.val at O ⊢;have a0:=fun h=>iw3 hR x h;have J:=ey2 hR x;generalize (l.any fun y=>y.same x)=b at *;generalize a1:pos l x=r at *;have a':=H_ a0;have a2:=H_ J;have b':=H_ a1;clear a0 J a1;have a4:=H_ O;clear O;go_enter func190,ntmps190;go_wp2_with fail;refine a4.out.mono ?_;rintro e W ⟨rfl,E⟩;generalize w.alloc (.cells #[.int .i64 x.s,.int .i64 x.k,.int .u64 (x.t:Int),.int .u64 (x.v:Int),.int .i64 x.x] 49)=V at *;obtain⟨g,hg⟩:=n_ w.heap.size;rw[<-hg]at Z ⊢;clear hg a4
 by_cases c9:r < n
 ·have a5:(r:Int) < (n:Int):=o_
  obtain⟨a,hl,rfl,b0,hd⟩:=((hr.below H).up H.size|>.below E).it (k:=r) o_;have a6:=a'.out o_;generalize l[r]=y at *;have I:=fun W=>kk2 y x W;unfold It.val at I;rw[a6]at I;have a7:∀w',Below W.heap.size W w'->(w'.cell? (a.add (r *5))=some (.int .i64 y.s)/\w'.cell? ⟨(a.add (r *5)).block,(a.add (r *5)).off+1,none⟩=some (.int .i64 y.k)/\w'.cell? ⟨(a.add (r *5)).block,(a.add (r *5)).off+2,none⟩=some (.int .u64 (y.t:Int))/\w'.cell? ⟨(a.add (r *5)).block,(a.add (r *5)).off+3,none⟩=some (.int .u64 (y.v:Int))/\w'.cell? ⟨(a.add (r *5)).block,(a.add (r *5)).off+4,none⟩=some (.int .i64 y.x))/\w'.cell? ⟨g,0,none⟩=some (.int .i64 x.s)/\w'.cell? ⟨g,1,none⟩=some (.int .i64 x.k)/\w'.cell? ⟨g,2,none⟩=some (.int .u64 (x.t:Int))/\w'.cell? ⟨g,3,none⟩=some (.int .u64 (x.v:Int))/\w'.cell? ⟨g,4,none⟩=some (.int .i64 x.x):=fun w' hb=>by
   have h1:=hd.below (B:=W.heap.size) (w':=w') (N_ b0 E.size) hb;have h2:=(Z.below E).below hb;exact⟨⟨h1.c0,h1.c1,h1.c2,h1.c3,h1.c4⟩,h2.cell 0,h2.cell 1,h2.cell 2,h2.cell 3,h2.cell 4⟩
  have KC:=H_ a7;have HL:=H_ I;clear a7 I hd a6;go_wp2_with fail;refine w_h W fun C=>?_;refine w_v 0 C ?_ (k:=kz4);go_simp;refine w_v 1 C ?_ (k:=kz4);go_simp;refine w_v 2 C ?_ (k:=kz4);go_simp;refine w_v 3 C ?_ (k:=kz4);go_simp;refine w_v 4 C ?_ (k:=kz4);go_simp;refine w_v 5 C ?_ (k:=kz4);go_simp;refine w_v 6 C ?_ (k:=kz4);go_simp;refine w_v 7 C ?_ (k:=kz4);go_simp;refine w_v 8 C ?_ (k:=kz4);go_simp;refine w_v 9 C ?_ (k:=kz4);go_simp;refine w_v 10 C ?_ (k:=kz4);go_simp;refine w_r 11 fun K hK=>?_;go_simp
  with_reducible refine(HL.out _).mono ?_
  rintro e w1 ⟨rfl,b1⟩;go_simp;refine hK.out _ _ (C.trans (b1.mono C.size)) ?_;clear C hK K;intro C;go_simp;refine w_v 12 C ?_ (k:=kz4);go_simp;refine w_v 13 C ?_ (k:=kz4);go_simp;refine w_v 14 C ?_ (k:=kz4);go_simp;refine w_d ?_;have Q:=az H (E.trans (C.mono E.size));clear C KC HL;go_wp2;go_ret2;exact⟨rfl,Q⟩
 ·have U:=a2.out o_
  have U:=U;subst U;have a5:((r:Int) < (n:Int))=False:=eq_false o_;go_wp2_with fail;refine w_h W fun C=>?_;refine w_v 0 C ?_ (k:=kz5);go_simp;refine w_v 1 C ?_ (k:=kz5);go_simp;refine w_v 2 C ?_ (k:=kz5);go_simp;refine w_v 3 C ?_ (k:=kz5);go_simp;refine w_v 4 C ?_ (k:=kz5);go_simp;refine w_v 5 C ?_ (k:=kz5);go_simp;refine wpT0 (i:=6) C ?_;go_simp;refine wpT0 (i:=7) C ?_;go_simp;refine wpT0 (i:=8) C ?_;go_simp;refine wpT0 (i:=9) C ?_;go_simp;refine wpT0 (i:=10) C ?_;go_simp;refine wpT0 (i:=11) C ?_;go_simp;refine w_v 12 C ?_ (k:=kz5);go_simp;refine w_v 13 C ?_ (k:=kz5);go_simp;refine w_v 14 C ?_ (k:=kz5);go_simp;refine w_d ?_;have Q:=az H (E.trans (C.mono E.size));go_wp2;go_ret2;exact⟨rfl,Q⟩
theorem sw5 {α:Type} (P:α->Bool) (l:List α):l.any (fun f=>!P f)= !l.all P:=by
 induction l with
 |nil=>rfl
 |cons a r C=>simp only[List.any_cons,List.all_cons,C,Bool.not_and]
theorem xx4 (e:Ed) (D:Option Addr) (m d:Nat) (A:Option Addr) (n c:Nat) (w:World) (hm:m<=1000000) (hn:n<=1000000) (U:Row w.heap.size w D m 1 (uw e.drop)) (hr:Row w.heap.size w A n 2 (dw e.add)):
  Calls prog 233 #[e.val D m d A n c] w fun x w'=>x=.returned (.bool e.may)/\Below w.heap.size w w':=by
 obtain⟨ds,fs,g,f,Z,a,l⟩:=e;obtain⟨b,J⟩:=n_ (Ed.may ⟨ds,fs,g,f,Z,a,l⟩);have a0:=hr.flen;have a1:=U.ilen;rw[<-J];unfold Ed.may at J;simp only at J hr a0 U a1;rw[az3,a0,a1]at J;unfold Ed.val;simp only
 by_cases h1:m<=40
 ·by_cases h2:n<=40
  ·by_cases h3:0<=g
   ·by_cases h4:g<=1073741824
    ·have hrow:=uv2 (w.alloc (.cells #[.slice D m d,.slice A n c,.int .i64 g,.int .u64 (f:Int),.int .u64 (Z:Int),.int .u64 (a:Int),.int .u64 (l:Int)] 131)) 27 #[.int .u64 (f:Int),.int .u64 (Z:Int),.int .u64 (a:Int),.int .u64 (l:Int)] [f,Z,a,l] 4 rfl rfl
     have C:=tz2 _ 4 4 [f,Z,a,l] _ o_ hrow;have I:=(b_ w (.cells #[.slice D m d,.slice A n c,.int .i64 g,.int .u64 (f:Int),.int .u64 (Z:Int),.int .u64 (a:Int),.int .u64 (l:Int)] 131)).alloc s_ (.cells #[.int .u64 (f:Int),.int .u64 (Z:Int),.int .u64 (a:Int),.int .u64 (l:Int)] 27);have E:=cz5 D m d ds _ hm ((U.below I).up I.size);have Q:=hj5 A n c fs _ hn ((hr.below I).up I.size);rw[sw5]at E Q;have H:b=(!bigs [f,Z,a,l] &&ds.all isNum&&fs.all xq):=by rw[J];simp[h1,h2,h3,h4]
     clear J hrow U hr;simp only[Q_]at C
     cases h5:bigs [f,Z,a,l] with
     |true=>
      rw[h5]at H C;have O:=H_ H;clear H h5 E Q;simp only[ca_]at C;go_enter func233,ntmps233;go_wp2_with fail;refine C.mono ?_;rintro e w1 ⟨rfl,rfl⟩;clear C;go_wp2;go_ret;exact⟨kk1 (O.out.trans rfl).symm,I⟩
     |false=>
      rw[h5]at H C
      cases h6:ds.all isNum with
      |false=>
       rw[h6]at H E;have O:=H_ H;clear H h5 h6 Q;simp only[b5_]at C E;go_enter func233,ntmps233;go_wp2_with fail;refine C.mono ?_;rintro e w1 ⟨rfl,rfl⟩;clear C;go_wp2_with fail;refine E.mono ?_;rintro e w1 ⟨rfl,rfl⟩;clear E;go_wp2;go_ret;exact⟨kk1 (O.out.trans rfl).symm,I⟩
      |true=>
       rw[h6]at H E;generalize fs.all xq=y at *;have O:=H_ H;clear H h5 h6;simp only[ca_]at E;simp only[b5_]at C;go_enter func233,ntmps233;go_wp2_with fail;refine C.mono ?_;rintro e w1 ⟨rfl,rfl⟩;clear C;go_wp2_with fail;refine E.mono ?_;rintro e w1 ⟨rfl,rfl⟩;clear E;go_wp2_with fail;refine Q.mono ?_;rintro e w1 ⟨rfl,a6⟩;have a7:=az I a6;clear Q
       cases y
       all_goals
        go_wp2;go_ret;exact⟨kk1 (O.out.trans rfl).symm,a7⟩
    ·have O:=H_ (J.trans (show _=false by simp[h4]))
     clear J;go_enter func233,ntmps233;go_wp2;go_ret;exact⟨kk1 O.out.symm,b_ _ _⟩
   ·have O:=H_ (J.trans (show _=false by simp[h3]))
    clear J;go_enter func233,ntmps233;go_wp2;go_ret;exact⟨kk1 O.out.symm,b_ _ _⟩
  ·have O:=H_ (J.trans (show _=false by simp[h2]))
   clear J;go_enter func233,ntmps233;go_wp2;go_ret;exact⟨kk1 O.out.symm,b_ _ _⟩
 ·have O:=H_ (J.trans (show _=false by simp[h1]))
  clear J;go_enter func233,ntmps233;go_wp2;go_ret;exact⟨kk1 O.out.symm,b_ _ _⟩
theorem BoxO.stores {e:TypeId} {g:Nat}:∀(vs:List Value) (o:Nat) (w:World) (xs:List Value),BoxO w e g xs->o+vs.length<=xs.length->BoxO (w.setCells g o vs) e g (xs.take o++(vs++xs.drop (o+vs.length)))
 |[],o,w,xs,h,_=>by simpa [World.setCells] using h
 |v::r,o,w,xs,h,C=>by
  simp only[q_]at C;have h1:=BoxO.stores r (o+1) (w.setCell ⟨g,o,none⟩ v) (xs.set o v) (h.store o v) (by simp;omega);have E:(xs.set o v).take (o+1)=xs.take o++[v]:=by
   rw[r_ (by simp;omega),List.take_set_of_le l_];simp
  have H:(xs.set o v).drop (o+1+r.length)=xs.drop (o+(r.length+1)):=by
   rw[cC_,if_pos o_,show o+1+r.length=o+(r.length+1) by omega]
  rw[E,H,K_]at h1;simpa [World.setCells] using h1
theorem ax1 (g:Nat):∀(vs:List Value) (o:Nat) (w w':World),Chg [g] w w'->Chg [g] w (w'.setCells g o vs)
 |[],_,_,_,h=>h
 |v::r,o,w,w',h=>ax1 g r (o+1) w _ (h.setCell v (.inl s_))
theorem mq2 (w:World) (ty:TypeId) (g o c:Nat) (I:∀j,j < 2->(w.cell? ⟨g,o+j,none⟩).isSome=true) (J:∀j,j < 2->w.frozen? ⟨g,o+j,none⟩=false):
  (Builtin.clear_ #[119] ty #[.slice (some ⟨g,o,none⟩) 1 c]).run prog w=.ok (.tuple #[]) (w.setCells g o [.int .i64 0,.int .i64 0]):=by
 have C:=run_storeCells_cells (P:=prog) g o [.int .i64 0,.int .i64 0] 0 w (by simpa using I) (by simpa using J) (by intro v H;simp at H;subst H;rfl);simp only[bm_]at C;have O:(zeroValue 89).run prog w=.ok (.agg #[.int .i64 0,.int .i64 0]) w:=by kernel_rfl
 have E:(Builtin.zeroCells (Value.agg #[.int .i64 0,.int .i64 0]).cells 1).toList=[.int .i64 0,.int .i64 0]:=by kernel_rfl
 simp[Builtin.clear_,run_underlying underlying119,O,E,C]
theorem nk1:(prog.info? 89).map (fun i=>(i.zero,i.size,i.bytes))=some (some (.agg #[.int .i64 0,.int .i64 0]),2,16):=by kernel_rfl
theorem ax5 (base g n cap i:Nat) (fs:List (Int×Int)) (w:World) (ho:w.ownsRow base 89 2 (.slice (some ⟨g,0,none⟩) n cap) n (dw fs)) (hi:i < n):
  Calls prog 236 #[.slice (some ⟨g,0,none⟩) n cap,.int .i64 (i:Int),.int .i64 ((i:Int)+1)] w fun e w'=>e=.returned (.slice (some ⟨g,0,none⟩) (n - 1) cap)/\
   w'.ownsRow base 89 2 (.slice (some ⟨g,0,none⟩) (n - 1) cap) (n - 1) (dw (fs.eraseIdx i))/\Chg [g] w w':=by
 obtain⟨i0,b8,d8,b9,d9⟩:=info_parts nk1;have a7:=ho.1;rw[iv1]at a7
 rcases ho.2 with ⟨_,h0⟩|⟨g',d3,cur,hv,b',E,hn,a8,a9,a0⟩
 ·omega
 injection hv with H c9 c';injection H with H;injection H with H;subst H c';clear c9;have hB:BoxO w 89 g cur.toList:=by unfold BoxO;simpa using E
 have d0:cur.toList.length=cap *2:=by simpa using a9
 obtain⟨k,hk⟩:∃k,n - (i+1)=k:=⟨_,rfl⟩;have I:∀j,j < n *2->w.cell? ⟨g,j,none⟩=(dw fs)[j]?:=fun j hj=>by
  rw[hB.cell,<-a0,a1_,if_pos hj]
 obtain⟨news,C⟩:=n_ (dw (fs.drop (i+1)));have O:news.length=k *2:=by rw[C,iv1,I_];omega
 have b0:news=(dw fs).drop ((i+1)*2):=by rw[C,kq3]
 obtain⟨A,hA,b1⟩:∃A:Addr,(if cap=i+1 then some (⟨g,0,none⟩:Addr) else some ⟨g,(i+1)*2,none⟩)=some A/\Hid (∀j u,news[j]?=some u->w.drew.cell? (A.add j)=some u):=by
  by_cases h:cap=i+1
  ·refine⟨⟨g,0,none⟩,by simp[h],fun j u hu=>?_⟩
   have h0:news.length=0:=by rw[O];omega
   rw[ag_.1 h0]at hu;simp at hu
  ·refine⟨⟨g,(i+1)*2,none⟩,by simp[h],fun j u hu=>?_⟩
   have hj:j < k *2:=by have:=(J_.1 hu).1;omega
   rw[Addr.add_lit,show w.drew.cell? ⟨g,(i+1)*2+j,none⟩=w.cell? ⟨g,(i+1)*2+j,none⟩ from rfl,I _ o_,<-hu,b0,ax_]
 have s1:Hid (news.length=k *2):=O;have s2:Hid (∀u∈news,u.oneCell'=true):=by rw[C];exact ek1 _
 have s3:Hid (∀j,j < news.length->(w.drew.cell? ⟨g,0+i *2+j,none⟩).isSome=true/\w.drew.frozen? ⟨g,0+i *2+j,none⟩=false):=by
  intro j hj;rw[O]at hj;refine⟨?_,hB.free _⟩;rw[show w.drew.cell? ⟨g,0+i *2+j,none⟩=w.cell? ⟨g,0+i *2+j,none⟩ from rfl,hB.cell,h_ o_];rfl
 obtain⟨W1,Q⟩:=n_ (w.drew.setCells g (0+i *2) news);have U:BoxO W1 89 g (cur.toList.take (i *2)++(news++cur.toList.drop (i *2+news.length))):=by
  rw[Q,an_];exact BoxO.stores news (i *2) w.drew _ hB.drew o_
 have b3:Chg [g] w W1:=by
  rw[Q];exact ax1 g news _ w _ (Chg.refl _ _).drew
 have J:∀j,j < 2->(W1.cell? ⟨g,(i+k)*2+j,none⟩).isSome=true:=fun j hj=>by
  rw[U.cell,h_ (by simp only[d_,v_,I_];omega)];rfl
 have b5:=fun ty c=>mq2 W1 ty g ((i+k)*2) c J (fun j hj=>U.free _);have a1:=BoxO.stores [.int .i64 0,.int .i64 0] ((i+k)*2) W1 _ U (by simp only[d_,v_,I_,q_,V_];omega);have b6:=ax1 g [.int .i64 0,.int .i64 0] ((i+k)*2) w _ b3;obtain⟨W2,a2⟩:=n_ (W1.setCells g ((i+k)*2) [.int .i64 0,.int .i64 0]);rw[<-a2]at a1 b6;simp only[<-a2]at b5;have Z:W2.ownsRow base 89 2 (.slice (some ⟨g,0,none⟩) (i+k) cap) (i+k) (dw (fs.eraseIdx i)):=by
  refine⟨by rw[iv1,List.length_eraseIdx_of_lt o_];omega,.inr ⟨g,cap,_,rfl,b',a1,o_,a8,?_,?_⟩⟩
  ·simp only[aA_,d_,v_,I_,q_,V_]
   omega
  ·have e1:dw (fs.eraseIdx i)=(dw fs).take (i *2)++news:=by
    rw[List.eraseIdx_eq_take_drop_succ,yv1,jw1,C]
   have e2:(dw fs).take (i *2)=cur.toList.take (i *2):=by
    rw[<-a0,aV_,a0_ o_]
   rw[e1,e2,ae_ (by simp only[d_,v_,I_];omega),aV_,a0_ o_,<-K_,
    ae_ (by simp only[d_,v_];omega),g_ (by simp only[d_,v_];omega)]
 have a4:i+k=n - 1:=o_
 have HF:Hid (W2.ownsRow base 89 2 (.slice (some ⟨g,0,none⟩) (n - 1) cap) (n - 1) (dw (fs.eraseIdx i))):=by rw[<-a4];exact Z
 have d1:=H_ a4;have HW:=H_ Q;have e1:((i:Int)==(i:Int)+1)=false:=by simp;omega
 have e9:i<=cap:=o_
 have d6:i+1<=cap:=o_
 have e':0<=(i:Int)+1/\(i:Int)+1<=(n:Int):=o_
 have a5:i+k<=cap:=o_
 have f5:i+k<=n:=o_
 have f6:n - (i+k)=1:=o_
 have f7:(n:Int)<=(cap:Int):=o_
 unfold maxLen at a8;clear ho E hB d0 I C O b0 U b3 J a1 a2 Z a4 Q a0 a9 a7;go_enter func236,ntmps236;go_wp2_with fail
 go_region_law (refine step_append_room rfl (.tmp 22) (.tmp 25) 119 rfl 89 i0 2 underlying119 b8 b9 g 0 i cap (by simp[Act.eval,Act.put]) A k (cap - (i+1)) news (by simp[Act.eval,Act.put]) s1.out b1.out s2.out a5 s3.out ?_;rw[<-HW.out])
 go_wp2_with fail;go_ret;exact⟨congrArg (fun x=>Ending.returned (Value.slice (some ⟨g,0,none⟩) x cap)) d1.out,HF.out,b6⟩
def It.none_:It:=⟨0,0,0,0,0⟩
def tkey (s:Int):It:=⟨s,1,0,0,0⟩
theorem jk3 {l:List It} (h:qx l) (J:∀y∈l,y.ok=true) (x y:It) (O:(l.any fun y=>y.same (tkey x.s))=true->y∈l/\y.same (tkey x.s)=true):hidden l x=((l.any fun y=>y.same (tkey x.s)) &&y.hides x):=by
 unfold hidden;have hs:∀t∈l,t.hides x=true->t.same (tkey x.s)=true:=fun t C H=>by
  have h1:=J t C;rw[It.uy3]at h1;rw[It.jq1]at H;rw[It.same_iff];unfold tkey;simp only;omega
 cases I:l.any fun y=>y.same (tkey x.s) with
 |false=>
  rw[Bool.false_and,X_];intro t C H;exact(X_.1 I) t C (hs t C H)
 |true=>
  obtain⟨h1,h2⟩:=O I;rw[cm_]
  cases H:y.hides x with
  |true=>exact ay_.2 ⟨y,h1,H⟩
  |false=>
   rw[X_];intro t C E;have h3:=hs t C E;have:t=y:=mj1 h C h1 (by rw[It.same_iff]at *;omega);rw[this,H]at E
   cases E
theorem fv5 (A:Option Addr) (n c:Nat) (l:List It) (s:Int) (w:World) (hn:n<=1000000) (hR:qx l) (hr:Row w.heap.size w A n 5 (itc l)):
  Calls prog 243 #[.slice A n c,.int .i64 s] w fun e w'=>∃y:It,e=.returned (.tuple #[y.val,.bool (l.any fun y=>y.same (tkey s))])/\((l.any fun y=>y.same (tkey s))=true->y∈l/\y.same (tkey s)=true)/\Below w.heap.size w w':=by
 have b7:=hr.qj;have H:=b_ w (.cells #[.int .i64 0,.int .i64 0,.int .u64 0,.int .u64 0,.int .i64 0] 49);have Z:=BoxO.new w #[.int .i64 0,.int .i64 0,.int .u64 0,.int .u64 0,.int .i64 0] 49;have Q:=dv3 A n c l (tkey s) (w.alloc (.cells #[.int .i64 0,.int .i64 0,.int .u64 0,.int .u64 0,.int .i64 0] 49)) hn hR ((hr.below H).up H.size);have a0:=fun h=>iw3 hR (tkey s) h;have I:=ey2 hR (tkey s);generalize (l.any fun y=>y.same (tkey s))=b at *;generalize pos l (tkey s)=r at *;unfold It.val tkey at Q;unfold It.val;have a1:=H_ Q;have a2:=H_ a0;have J:=H_ I;clear Q a0 I;go_enter func243,ntmps243;go_wp2_with fail;refine a1.out.mono ?_;rintro e W ⟨rfl,U⟩;generalize w.alloc (.cells #[.int .i64 0,.int .i64 0,.int .u64 0,.int .u64 0,.int .i64 0] 49)=V at *;obtain⟨g,hg⟩:=n_ w.heap.size;have C:w.heap.size<=g:=o_
 rw[<-hg]at Z ⊢;clear hg a1;have E:=Z.below U;have b0:=E.c0;have b1:=E.c1;have b2:=E.c2;have b3:=E.c3;have b4:=E.c4;have z0:=E.free 0;have z1:=E.free 1;have z2:=E.free 2;have z3:=E.free 3;have z4:=E.free 4;have a4:=az H U
 cases b with
 |false=>
  go_wp2;refine bodyPost_ret (v:=.tuple #[.agg #[.int .i64 0,.int .i64 0,.int .u64 0,.int .u64 0,.int .i64 0],.bool false]) (by simp[results,go_sem, *]) rfl ⟨It.none_,rfl,(fun h=>by cases h),?_⟩;exact((((a4.setCell (p:=⟨g,0,none⟩) C _).setCell (p:=⟨g,1,none⟩) C _).setCell (p:=⟨g,2,none⟩) C _).setCell (p:=⟨g,3,none⟩) C _).setCell (p:=⟨g,4,none⟩) C _
 |true=>
  have a8:r < n:=by
   rcases ah_ r l.length with h|h
   ·omega
   ·have:=J.out o_
    cases this
  obtain⟨a,hl,rfl,b8,hd⟩:=((hr.below H).up H.size|>.below U).it (k:=r) a8;obtain⟨c0,c1,c2,c3,c4⟩:=hd;have a5:=a2.out hl;have O:=u_ hl;generalize l[r]=y at *;have HS:=H_ (c_ O a5);have b5:(r:Int) < (n:Int):=o_
  clear O a5 a2 J;go_wp2;refine bodyPost_ret (v:=.tuple #[.agg #[.int .i64 y.s,.int .i64 y.k,.int .u64 (y.t:Int),.int .u64 (y.v:Int),.int .i64 y.x],.bool true]) (by simp[results,go_sem, *]) rfl ⟨y,rfl,HS.out,?_⟩;exact((((a4.setCell (p:=⟨g,0,none⟩) C _).setCell (p:=⟨g,1,none⟩) C _).setCell (p:=⟨g,2,none⟩) C _).setCell (p:=⟨g,3,none⟩) C _).setCell (p:=⟨g,4,none⟩) C _
theorem oy2 (A:Option Addr) (n c:Nat) (l:List It) (x:It) (w:World) (hn:n<=1000000) (hR:qx l) (hk:∀y∈l,y.ok=true) (hr:Row w.heap.size w A n 5 (itc l)):
  Calls prog 189 #[.slice A n c,x.val] w fun e w'=>e=.returned (.bool (hidden l x))/\Below w.heap.size w w':=by
 have J:=b_ w (.cells #[.int .i64 x.s,.int .i64 x.k,.int .u64 (x.t:Int),.int .u64 (x.v:Int),.int .i64 x.x] 49);have I:=BoxO.new w #[.int .i64 x.s,.int .i64 x.k,.int .u64 (x.t:Int),.int .u64 (x.v:Int),.int .i64 x.x] 49;have O:=fv5 A n c l x.s (w.alloc (.cells #[.int .i64 x.s,.int .i64 x.k,.int .u64 (x.t:Int),.int .u64 (x.v:Int),.int .i64 x.x] 49)) hn hR ((hr.below J).up J.size);have Q:=fun y=>jk3 hR hk x y;obtain⟨r,U⟩:=n_ (hidden l x);rw[<-U];simp only[<-U]at Q;unfold It.val at O ⊢;generalize (l.any fun y=>y.same (tkey x.s))=b at *;have Z:=H_ O;have a0:=H_ Q;clear O Q U;go_enter func189,ntmps189;go_wp2_with fail;refine Z.out.mono ?_;rintro e W ⟨y,rfl,hy,a1⟩;have hh:=a0.out y hy;generalize w.alloc (.cells #[.int .i64 x.s,.int .i64 x.k,.int .u64 (x.t:Int),.int .u64 (x.v:Int),.int .i64 x.x] 49)=V at *;obtain⟨g,hg⟩:=n_ w.heap.size;rw[<-hg]at I ⊢;clear hg Z a0 hy;have a5:=az J a1;have E:=I.below a1;have C:=b_ W (.cells #[.int .i64 y.s,.int .i64 y.k,.int .u64 (y.t:Int),.int .u64 (y.v:Int),.int .i64 y.x] 49);have b0:=(E.below C).c0;have b1:=(E.below C).c1;have b2:=(E.below C).c2;have b3:=(E.below C).c3;have b4:=(E.below C).c4;have HH:=H_ hh;have H:=fun W=>sv2 y x W;unfold It.val at H;generalize y.hides x=q at *;have HD:=H_ H;have a2:=az a5 C;clear hh H
 cases b with
 |false=>
  have HR:=H_ (show r=false from HH.out.trans (Bool.false_and _));clear HH;go_wp2;go_ret;exact⟨ik HR.out.symm,a2⟩
 |true=>
  have HR:=H_ (show r=q from HH.out.trans (cm_ _));clear HH;go_wp2_with fail;refine(HD.out _).mono ?_;rintro e W2 ⟨rfl,a7⟩;have I:=az a2 a7;go_wp2;go_ret;exact⟨ik HR.out.symm,I⟩
theorem qw:(prog.info? 49).map (fun i=>(i.zero,i.size,i.bytes))=some (some (.agg #[.int .i64 0,.int .i64 0,.int .u64 0,.int .u64 0,.int .i64 0]),5,40):=by kernel_rfl
theorem uw1 (w:World) (ty:TypeId) (b o C H:Nat) (a:Addr) (E I:Nat) (cs:List Value) (Z:cs.length=Nat.min E C *5)
  (J:∀j v,cs[j]?=some v->w.cell? (a.add j)=some v) (hc:∀j,j < cs.length->(w.cell? ⟨b,o+j,none⟩).isSome=true) (hf:∀j,j < cs.length->w.frozen? ⟨b,o+j,none⟩=false) (h1:∀v∈cs,v.oneCell'=true):
  (Builtin.copy_ #[26,26] ty #[.slice (some ⟨b,o,none⟩) C H,.slice (some a) E I]).run prog w=.ok (goInt (Nat.min E C)) (w.setCells b o cs):=by
 have hl:=run_loadCells_list (P:=prog) w a cs J;have O:=run_storeCells_cells (P:=prog) b o cs 0 w (by simpa using hc) (by simpa using hf) h1;obtain⟨i0,Q,a4,U,a5⟩:=info_parts qw;simp[Builtin.copy_,run_underlying underlying26,Builtin.lenOf,Builtin.firstCells,sizeOf,typeInfo,Q,U,<-Z,hl,O]
def rj5 (base n:Nat) (L:List It) (F:List Nat) (w:World) (e:Ending) (w':World):Prop:=∃A' c',e=.returned (.slice A' (n+1) c')/\w'.ownsRow base 49 5 (.slice A' (n+1) c') (n+1) (itc L)/\Chg F w w'/\∀g,F=[g]->(Value.slice A' (n+1) c').ownBlock=some g
theorem kv3 (base g n cap i:Nat) (l:List It) (x:It) (J:Nat) (w:World) (ho:w.ownsRow base 49 5 (.slice (some ⟨g,0,none⟩) n cap) n (itc l)) (hi:i < n) (d0:n+1<=cap) (hv:BoxO w 49 J x.cells) (b1:J≠g):
  Calls prog 191 #[.slice (some ⟨g,0,none⟩) n cap,.int .i64 (i:Int),.slice (some ⟨J,0,none⟩) 1 1] w (rj5 base n (l.take i++x::l.drop i) [g] w):=by
 have b2:=ho.1;rw[jk]at b2;have d1:l.length=n:=o_
 rcases ho.2 with ⟨_,h0⟩|⟨g',e0,cur,d3,d4,E,hn,a4,a5,a6⟩
 ·omega
 injection d3 with C d5 d6;injection C with C;injection C with C;subst C d6;clear d5;have hB:BoxO w 49 g cur.toList:=by unfold BoxO;simpa using E
 have d7:cur.toList.length=cap *5:=by simpa using a5
 obtain⟨D,hD⟩:=n_ (itc (l.drop i));have b6:D.length=(n - i)*5:=by rw[hD,jk,I_,d1]
 have b7:∀v∈D,v.oneCell'=true:=by rw[hD];exact uj _
 have H:∀j v,D[j]?=some v->w.drew.cell? ⟨g,i *5+j,none⟩=some v:=fun j v hj=>by
  have e2:j < (n - i)*5:=by have:=(J_.1 hj).1;omega
  rw[show w.drew.cell? ⟨g,i *5+j,none⟩=w.cell? ⟨g,i *5+j,none⟩ from rfl,hB.cell,<-hj,hD,pq1,ax_,<-a6,a1_,if_pos o_]
 have I:∀k,k < cap *5->(w.drew.cell? ⟨g,k,none⟩).isSome=true:=fun k hk=>by
  rw[show w.drew.cell? ⟨g,k,none⟩=w.cell? ⟨g,k,none⟩ from rfl,hB.cell,h_ o_];rfl
 have U:∀ty dc sc,(Builtin.copy_ #[26,26] ty #[.slice (some ⟨g,(i+1)*5,none⟩) (n - i) dc,.slice (some ⟨g,i *5,none⟩) (n+1 - i) sc]).run prog w.drew=.ok (goInt ((n - i:Nat):Int)) (w.drew.setCells g ((i+1)*5) D):=fun ty dc sc=>by
  have hm:Nat.min (n+1 - i) (n - i)=n - i:=by simp only[Nat.min_def];split<;>omega
  have:=uw1 w.drew ty g ((i+1)*5) (n - i) dc ⟨g,i *5,none⟩ (n+1 - i) sc D (by rw[hm,b6]) (fun j v hj=>by rw[Addr.add_lit];exact H j v hj) (fun j hj=>I _ o_) (fun j hj=>hB.drew.free _) b7
  rwa [hm]at this
 obtain⟨Z,O⟩:=n_ (w.drew.setCells g ((i+1)*5) D);have Q:BoxO Z 49 g (cur.toList.take ((i+1)*5)++(D++cur.toList.drop ((i+1)*5+D.length))):=by
  rw[O];exact BoxO.stores D _ w.drew _ hB.drew o_
 have a8:Chg [g] w Z:=by
  rw[O];exact ax1 g D _ w _ (Chg.refl _ _).drew
 have C:BoxO Z 49 J x.cells:=hv.chg a8 (by simpa using b1);rw[<-O]at U;have a0:∀ty dc,(Builtin.copy_ #[26,26] ty #[.slice (some ⟨g,i *5,none⟩) (n+1 - i) dc,.slice (some ⟨J,0,none⟩) 1 1]).run prog Z=.ok (goInt 1) (Z.setCells g (i *5) x.cells):=fun ty dc=>by
  have hm:Nat.min 1 (n+1 - i)=1:=by simp only[Nat.min_def];split<;>omega
  have:=uw1 Z ty g (i *5) (n+1 - i) dc ⟨J,0,none⟩ 1 1 x.cells (by rw[hm];rfl) (fun j v hj=>by rw[Addr.add_lit,an_,C.cell];exact hj)
   (fun j hj=>by rw[Q.cell,h_ (by rw[It.gq]at hj;simp only[d_,v_,I_];omega)];rfl) (fun j hj=>Q.free _) (fun v hv=>uj [x] v (by simpa [itc] using hv))
  rwa [hm]at this
 obtain⟨W2,a9⟩:=n_ (Z.setCells g (i *5) x.cells);have a':=BoxO.stores x.cells (i *5) Z _ Q (by simp only[d_,v_,I_,It.gq];omega);have b0:=ax1 g x.cells (i *5) w _ a8;rw[<-a9]at a' b0;simp only[<-a9]at a0;have a1:W2.ownsRow base 49 5 (.slice (some ⟨g,0,none⟩) (n+1) cap) (n+1) (itc (l.take i++x::l.drop i)):=by
  refine⟨by rw[jk,d_,q_,v_,I_];omega,.inr ⟨g,cap,_,rfl,d4,a',o_,a4,?_,?_⟩⟩
  ·simp only[aA_,d_,v_,I_,It.gq]
   omega
  ·have e1:itc (l.take i++x::l.drop i)=cur.toList.take (i *5)++(x.cells++D):=by
    rw[lq,dz1,<-a6,aV_,a0_ o_,hD];rfl
   rw[e1];have t1:(cur.toList.take ((i+1)*5)++(D++cur.toList.drop ((i+1)*5+D.length))).take (i *5)=cur.toList.take (i *5):=by
    rw[ae_ (by rw[v_];omega),aV_,a0_ o_]
   have t2:(cur.toList.take ((i+1)*5)++(D++cur.toList.drop ((i+1)*5+D.length))).drop (i *5+x.cells.length)=D++cur.toList.drop ((i+1)*5+D.length):=by
    rw[It.gq,show i *5+5=(i+1)*5 by omega,au_ (by rw[v_];omega),List.drop_take,bQ_,List.take_zero,C_]
   rw[t1,t2,bl_,<-K_,<-K_,ae_ (by simp only[d_,v_,It.gq];omega),g_ (by simp only[d_,v_,It.gq];omega),K_]
 have b9:w.shape? g=some (49,cap *5):=by unfold World.shape?;rw[E];simp[a5]
 have b':w.shape? J=some (49,5):=by unfold World.shape?;rw[show w.heap[J]?=_ from hv];rfl
 have d9:∀lb cb,(callFunc 246 #[.slice (some ⟨J,0,none⟩) 1 1,.slice (some ⟨g,(i+1)*5,none⟩) lb cb]).run prog w=.ok (.value (.bool false)) w:=fun lb cb=>by
  rw[run_callFunc_extern func246 (by kernel_rfl) (by kernel_rfl) (by kernel_rfl) (e:=Extern.SlicesOverlaps.overlaps #[26,26] #[4]) (by kernel_rfl),
   Lib.run_overlaps_apart w 26 4 49 underlying26 5 Tryz.sizeOf49 ⟨J,0,none⟩ ⟨g,(i+1)*5,none⟩ 1 1 lb cb b1 49 49 5 (cap *5) b' b9 o_ (hv.free _) (hv.free _)]
  rfl
 have c9:=H_ (c_ a1 (c_ b0 (fun g' (h:[g]=[g'])=>show (Value.slice (some (⟨g,0,none⟩:Addr)) (n+1) cap).ownBlock=some g' by injection h with h;rw[<-h];rfl)));have e5:IntKind.i64.wrap ((i:Int)+1)=(i:Int)+1:=by rw[IntKind.wrap_i64];unfold maxLen at a4;omega
 have e6:(0:Int)<=(i:Int)+1:=o_
 have e7:i<=n:=o_
 have e9:((i:Int)+1).toNat=i+1:=o_
 have e':¬((i:Int)=(n:Int)):=o_
 have f5:¬(cap=i+1):=o_
 have f6:(i:Int)<=(n:Int)+1:=o_
 have f7:¬(cap=i):=o_
 unfold maxLen at a4;clear ho E hB d7 H hD b6 b7 I Q a8 C a' b0 a1 a6 a5 b2 hv O a9 b9 b';go_enter func191,ntmps191;go_wp2_with (simp only[d9])
 go_region_law (refine step_copy_runI rfl _ _ 26 26 rfl (.slice (some ⟨g,(i+1)*5,none⟩) (n - i) (cap - (i+1))) (.slice (some ⟨g,i *5,none⟩) (n+1 - i) (cap - i)) (by simp[Act.eval,Act.put]) (by simp[Act.eval,Act.put]) (U _ _ _) ?_)
 go_wp2_with (at_builtin;refine wpList_copy_runI _ rfl _ _ 26 26 rfl _ _ rfl rfl (a0 _ _) ?_);go_ret;exact⟨_,_,rfl,c9.out⟩
theorem bk4 (base:Nat) (A:Option Addr) (n cap:Nat) (l:List It) (x:It) (I:Nat) (w:World) (hn:n<=1000000) (C:base<=w.heap.size) (ho:w.ownsRow base 49 5 (.slice A n cap) n (itc l)) (J:BoxO w 49 I x.cells):
  Calls prog 191 #[.slice A n cap,.int .i64 (n:Int),.slice (some ⟨I,0,none⟩) 1 1] w fun e w'=>∃A' H,e=.returned (.slice A' (n+1) H)/\w'.ownsRow base 49 5 (.slice A' (n+1) H) (n+1) (itc (l++[x]))/\Chg (Value.slice A n cap).ownBlock.toList w w'/\((Value.slice A' (n+1) H).ownBlock=(Value.slice A n cap).ownBlock\/(Value.slice A' (n+1) H).ownBlock=some w.heap.size):=by
 obtain⟨i0,O,Q,U,Z⟩:=info_parts qw;obtain⟨A1,c1,hv0,a6,a7,_⟩:=gz ho;injection hv0 with e1 e2 e3;subst e1 e3;clear e2;have hrow:Row w.heap.size w (some ⟨I,0,none⟩) 1 5 x.cells:=⟨rfl,fun j hj=>⟨_,rfl,J.lt,by
  rw[show ((⟨I,0,none⟩:Addr).add j)=⟨I,j,none⟩ by rw[Addr.add_lit,an_],J.cell];exact h_ hj⟩⟩
 have a0:itc l++x.cells=itc (l++[x]):=by rw[lq];simp[itc]
 have a1:∀u∈x.cells,u.oneCell'=true:=fun v J=>uj [x] v (by simpa [itc] using J);have HR:=H_ hrow;have HO:=H_ ho;have a2:=H_ a0;have H1:=H_ a1;unfold maxLen at a7;clear ho J hrow a0 a1
 rcases Nat.eq_or_lt_of_le a6 with hq|hq
 ·subst hq
  go_enter func191,ntmps191;go_wp2_with (at_builtin;refine iy ?_);refine bz (cy1 rfl (.tmp 23) (.tmp 24) _ rfl base 49 i0 _ 5 40 underlying26 O Q U Z rfl o_ w b0_ C _ n (itc l) rfl HO.out w.heap.size _ 1 1 o_ x.cells rfl HR.out H1.out (n+1) (itc (l++[x])) rfl a2.out (by unfold maxLen;omega) o_ ?_);intro A' H w' h1 h2 h3 h4 h5 h6;have H6:=H_ (c_ (Chg.qy (F:=(Value.slice A n n).ownBlock.toList) h3 (fun b hb=>by have E:(Value.slice A n n).ownBlock=some b:=hb;rw[E];simp)) h6);clear h6;go_wp2;go_ret;exact⟨_,_,rfl,h1,H6.out⟩
 ·have b8:¬cap=n:=o_
  go_enter func191,ntmps191;go_wp2_with (at_builtin;refine iy ?_);refine bz (cy1 rfl (.tmp 23) (.tmp 24) _ rfl base 49 i0 _ 5 40 underlying26 O Q U Z rfl o_ w b0_ C _ n (itc l) rfl HO.out w.heap.size _ 1 1 o_ x.cells rfl HR.out H1.out (n+1) (itc (l++[x])) rfl a2.out (by unfold maxLen;omega) o_ ?_);intro A' H w' h1 h2 h3 h4 h5 h6;have H6:=H_ (c_ (Chg.qy (F:=(Value.slice A n cap).ownBlock.toList) h3 (fun b hb=>by have E:(Value.slice A n cap).ownBlock=some b:=hb;rw[E];simp)) h6);clear h6;go_wp2;go_ret;exact⟨_,_,rfl,h1,H6.out⟩
theorem jq3 (base g n i:Nat) (l:List It) (x:It) (vb:Nat) (w:World) (g6:n<=1000000) (e5:base<=w.heap.size) (ho:w.ownsRow base 49 5 (.slice (some ⟨g,0,none⟩) n n) n (itc l)) (hi:i < n) (hv:BoxO w 49 vb x.cells):
  Calls prog 191 #[.slice (some ⟨g,0,none⟩) n n,.int .i64 (i:Int),.slice (some ⟨vb,0,none⟩) 1 1] w fun e w'=>∃A' c',e=.returned (.slice A' (n+1) c')/\w'.ownsRow base 49 5 (.slice A' (n+1) c') (n+1) (itc (l.take i++x::l.drop i))/\Below w.heap.size w w'/\(Value.slice A' (n+1) c').ownBlock=some w.heap.size:=by
 obtain⟨i0,e9,e',f5,a8⟩:=info_parts qw;have c9:=ho.1;rw[jk]at c9;have f6:l.length=n:=o_
 have hr:=Row.own ho;obtain⟨a0,a9,f8⟩:=hr.some_ (by rw[jk];omega);injection a9 with a9;subst a9;have E:∀j v,(itc l)[j]?=some v->w.cell? ⟨g,j,none⟩=some v:=fun j v hj=>by
  have:=hr.cells j v hj
  rwa [Addr.add_lit,an_]at this
 obtain⟨N,hN⟩:=n_ w.heap.size;obtain⟨G,hG⟩:=n_ (grownCap w (n+1) n 49);have f9:n+1<=G:=by rw[hG];exact grownCap_ge w _ _ _
 have a4:G<=maxLen:=by rw[hG];exact grownCap_le_maxLen w (n+1) n 49 (by unfold maxLen;omega)
 have H:((itc l).take (i *5)).length=i *5:=by rw[v_,jk];omega
 have a5:(Builtin.firstCells i0.size i (.slice (some ⟨g,0,none⟩) i n)).run prog w.drew=.ok ((itc l).take (i *5)).toArray w.drew:=by
  rw[f5];exact run_firstCells_some (P:=prog) (w:=w.drew) 5 i ⟨g,0,none⟩ i n _ H (fun j v hj=>by
   rw[Addr.add_lit,an_];rw[a1_]at hj;split at hj
   ·exact E j v hj
   ·cases hj)
 obtain⟨C,I⟩:∃C:Array Value,C=((itc l).take (i *5)).toArray++Builtin.zeroCells (Value.agg #[.int .i64 0,.int .i64 0,.int .u64 0,.int .u64 0,.int .i64 0]).cells (n+1 - i)++Builtin.zeroCells (Value.agg #[.int .i64 0,.int .i64 0,.int .u64 0,.int .u64 0,.int .i64 0]).cells (G - (n+1)):=⟨_,rfl⟩;have a':i+(n+1 - i)=n+1:=o_
 have b0:∀ty,(Builtin.append_ #[26,3] ty #[.slice (some ⟨g,0,none⟩) i n,.int .i64 ((n:Int)+1 - (i:Int))]).run prog w=.ok (.slice (some ⟨N,0,none⟩) (n+1) G) (w.drew.alloc (.cells C 49)):=fun ty=>by
  have h:=Lib.run_append_grow_zeros w 26 3 ty 49 i0 _ .i64 .i64 underlying26 underlying3 e9 e' (some ⟨g,0,none⟩) i n _ a5 (n+1 - i) o_ o_ o_ o_ (by rw[a8];omega) (by rw[a8,a'];exact growslice_fits o_ o_);rw[a',<-hG,<-hN,<-I]at h;rw[show (n:Int)+1 - (i:Int)=((n+1 - i:Nat):Int) by omega];exact h
 have b1:∀k,(Builtin.zeroCells (Value.agg #[.int .i64 0,.int .i64 0,.int .u64 0,.int .u64 0,.int .i64 0]).cells k).size=k *5:=fun k=>by simp[Builtin.zeroCells,Value.cells]
 have d0:C.size=G *5:=by
  rw[I,b2_,b2_,b1,b1,aA_,H];omega
 have d1:C.toList.take (i *5)=(itc l).take (i *5):=by
  rw[I,Array.toList_append,Array.toList_append,K_,bl_,ae_ o_,g_ o_]
 obtain⟨D,hD⟩:=n_ (itc (l.drop i));have d3:D.length=(n - i)*5:=by rw[hD,jk,I_,f6]
 have d4:∀v∈D,v.oneCell'=true:=by rw[hD];exact uj _
 have d5:∀j v,D[j]?=some v->w.cell? ⟨g,i *5+j,none⟩=some v:=fun j v hj=>by
  refine E _ _ ?_
  rwa [hD,pq1,ax_]at hj
 obtain⟨U,Z⟩:=n_ (w.drew.alloc (.cells C 49));have a1:BoxO U 49 N C.toList:=by rw[Z,hN];exact BoxO.new w.drew C 49
 have b2:Below w.heap.size w U:=by rw[Z];exact(ak (Below.refl w.heap.size w)).alloc l_ _
 have d6:BoxO U 49 vb x.cells:=hv.below b2;have f':C.toList.length=G *5:=by simpa using d0
 have d7:Chg [N] w U:=Chg.of_below b2 [N];rw[<-Z]at b0;have O:∀ty dc,(Builtin.copy_ #[26,26] ty #[.slice (some ⟨N,i *5,none⟩) (n+1 - i) dc,.slice (some ⟨vb,0,none⟩) 1 1]).run prog U=.ok (goInt 1) (U.setCells N (i *5) x.cells):=fun ty dc=>by
  have hm:Nat.min 1 (n+1 - i)=1:=by simp only[Nat.min_def];split<;>omega
  have:=uw1 U ty N (i *5) (n+1 - i) dc ⟨vb,0,none⟩ 1 1 x.cells (by rw[hm];rfl) (fun j v hj=>by rw[Addr.add_lit,an_,d6.cell];exact hj)
   (fun j hj=>by rw[a1.cell,h_ (by rw[It.gq]at hj;omega)];rfl) (fun j hj=>a1.free _) (fun v hv=>uj [x] v (by simpa [itc] using hv))
  rwa [hm]at this
 obtain⟨W2,b5⟩:=n_ (U.setCells N (i *5) x.cells);have J:=BoxO.stores x.cells (i *5) U _ a1 (by rw[It.gq];omega);have a2:=ax1 N x.cells (i *5) w _ d7;rw[<-b5]at J a2;simp only[<-b5]at O;rw[d1,It.gq]at J;have d9:Below w.heap.size w W2:=a2.below l_ (by simp[hN]);have Q:∀ty dc sc,(Builtin.copy_ #[26,26] ty #[.slice (some ⟨N,(i+1)*5,none⟩) (n - i) dc,.slice (some ⟨g,i *5,none⟩) (n - i) sc]).run prog W2.drew=.ok (goInt ((n - i:Nat):Int)) (W2.drew.setCells N ((i+1)*5) D):=fun ty dc sc=>by
  have hm:Nat.min (n - i) (n - i)=n - i:=Nat.min_self _;have:=uw1 W2.drew ty N ((i+1)*5) (n - i) dc ⟨g,i *5,none⟩ (n - i) sc D (by rw[hm,d3]) (fun j v hj=>by
    rw[Addr.add_lit];exact(d9.cell (p:=⟨g,i *5+j,none⟩) f8).trans (d5 j v hj))
   (fun j hj=>by
    rw[show W2.drew.cell? ⟨N,(i+1)*5+j,none⟩=W2.cell? ⟨N,(i+1)*5+j,none⟩ from rfl,J.cell,h_ (by simp only[d_,v_,I_,It.gq,jk];omega)];rfl)
   (fun j hj=>J.drew.free _) d4
  rwa [hm]at this
 obtain⟨W3,b6⟩:=n_ (W2.drew.setCells N ((i+1)*5) D);have b7:=BoxO.stores D ((i+1)*5) W2.drew _ J.drew (by simp only[d_,v_,I_,It.gq,jk];omega);have b8:=ax1 N D ((i+1)*5) w _ a2.drew;rw[<-b6]at b7 b8;simp only[<-b6]at Q;have a7:W3.ownsRow base 49 5 (.slice (some ⟨N,0,none⟩) (n+1) G) (n+1) (itc (l.take i++x::l.drop i)):=by
  refine⟨by rw[jk,d_,q_,v_,I_];omega,.inr ⟨N,G,_,rfl,o_,b7,f9,a4,?_,?_⟩⟩
  ·simp only[aA_,d_,v_,I_,It.gq,jk]
   omega
  ·have e1:itc (l.take i++x::l.drop i)=(itc l).take (i *5)++x.cells++D:=by
    rw[lq,dz1,hD,K_];rfl
   have e2:((itc l).take (i *5)++(x.cells++C.toList.drop (i *5+5))).take ((i+1)*5)=(itc l).take (i *5)++x.cells:=by
    rw[<-K_,ae_ (by simp only[d_,It.gq,H];omega),g_ (by simp only[d_,It.gq,H];omega)]
   rw[e1,e2,bl_,<-K_,ae_ (by simp only[d_,It.gq,H];omega),g_ (by simp only[d_,It.gq,H];omega)]
 have d':Below w.heap.size w W3:=b8.below l_ (by simp[hN]);have e0:=H_ (c_ a7 (c_ d' (show (Value.slice (some ⟨N,0,none⟩) (n+1) G).ownBlock=some w.heap.size by rw[hN];rfl)));have g9:IntKind.i64.wrap ((i:Int)+1)=(i:Int)+1:=by rw[IntKind.wrap_i64];omega
 have b2:(0:Int)<=(i:Int)+1:=o_
 have g':i<=n:=o_
 have h0:((i:Int)+1).toNat=i+1:=o_
 have a8:¬((i:Int)=(n:Int)):=o_
 have h6:¬(G=i):=o_
 have h7:¬(G=i+1):=o_
 have d':(i:Int)<=(n:Int)+1:=o_
 have h8:¬(n=i):=o_
 have g1:=H_ b0;have HA:=H_ O;have HB:=H_ Q;unfold maxLen at a4;clear ho hr E hN hG H a5 I a' b0 b1 d0 d1 hD d3 d4 d5 Z a1 d6 f' d7 O b5 J a2 d9 Q b6 b7 b8 a7 hv c9;go_enter func191,ntmps191;go_wp2_with (first
  |(at_builtin;refine Lib.wpList_append_run _ rfl _ _ _ _ rfl _ _ rfl rfl _ _ (g1.out _) ?_)
  |(at_builtin;refine wpList_copy_runI _ rfl _ _ 26 26 rfl _ _ rfl rfl (HA.out _ _) ?_))
 rw[HA.out];go_wp2_with fail
 go_region_law (refine step_copy_runI rfl _ _ 26 26 rfl (.slice (some ⟨N,(i+1)*5,none⟩) (n - i) (G - (i+1))) (.slice (some ⟨g,i *5,none⟩) (n - i) (n - i)) (by simp[Act.eval,Act.put]) (by simp[Act.eval,Act.put]) (HB.out _ _ _) ?_)
 go_wp2;go_ret;exact⟨_,_,rfl,e0.out⟩
theorem fk4 (base:Nat) (A:Option Addr) (n cap i:Nat) (l:List It) (x:It) (H:Nat) (w:World) (U:n<=1000000) (hi:i<=n) (C:base<=w.heap.size) (I:w.ownsRow base 49 5 (.slice A n cap) n (itc l)) (J:BoxO w 49 H x.cells) (O:∀a,A=some a->H≠a.block):
  Calls prog 191 #[.slice A n cap,.int .i64 (i:Int),.slice (some ⟨H,0,none⟩) 1 1] w fun e w'=>∃A' E,e=.returned (.slice A' (n+1) E)/\w'.ownsRow base 49 5 (.slice A' (n+1) E) (n+1) (itc (l.take i++x::l.drop i))/\Chg (Value.slice A n cap).ownBlock.toList w w'/\((Value.slice A' (n+1) E).ownBlock=(Value.slice A n cap).ownBlock\/(Value.slice A' (n+1) E).ownBlock=some w.heap.size):=by
 have a0:l.length=n:=by have:=I.1;rw[jk]at this;omega
 rcases Nat.eq_or_lt_of_le hi with rfl|hi
 ·rw[g_ o_,List.drop_of_length_le o_]
  exact bk4 base A i cap l x H w U C I J
 ·rcases I.2 with ⟨_,h0⟩|⟨g,Z,cur,Q,a1,_,a2,_⟩
  ·omega
  ·injection Q with hA _ hc
   subst hA hc
   rcases ah_ n cap with h1|h1
   ·refine(kv3 base g n cap i l x H w I hi h1 J (O _ rfl)).mono ?_
    rintro e w' ⟨A',E,h2,h3,h4,h5⟩;exact⟨A',E,h2,h3,h4,.inl (h5 g rfl)⟩
   ·obtain rfl:cap=n:=o_
    refine(jq3 base g cap i l x H w U C I hi J).mono ?_;rintro e w' ⟨A',E,h2,h3,h4,h5⟩;exact⟨A',E,h2,h3,Chg.of_below h4 _,.inr h5⟩
theorem cv2 (w:World) (g o k:Nat) (I:∀j,j < k *5->(w.cell? ⟨g,o+j,none⟩).isSome=true) (J:∀j,j < k *5->w.frozen? ⟨g,o+j,none⟩=false):
  ∃cs:List Value,cs.length=k *5/\∀ty c,(Builtin.clear_ #[26] ty #[.slice (some ⟨g,o,none⟩) k c]).run prog w=.ok (.tuple #[]) (w.setCells g o cs):=by
 refine⟨(Builtin.zeroCells (Value.agg #[.int .i64 0,.int .i64 0,.int .u64 0,.int .u64 0,.int .i64 0]).cells k).toList,by simp[Builtin.zeroCells,Value.cells],fun ty c=>?_⟩;have E:(Builtin.zeroCells (Value.agg #[.int .i64 0,.int .i64 0,.int .u64 0,.int .u64 0,.int .i64 0]).cells k).toList.length=k *5:=by simp[Builtin.zeroCells,Value.cells]
 have h1:∀v∈(Builtin.zeroCells (Value.agg #[.int .i64 0,.int .i64 0,.int .u64 0,.int .u64 0,.int .i64 0]).cells k).toList,v.oneCell'=true:=fun v H=>by
  simp only[Builtin.zeroCells,Value.cells,Array.mem_toList_iff,Array.mem_map]at H;obtain⟨a,_,rfl⟩:=H;have h5:a % 5 < 5:=bP_ _ o_;show Value.oneCell' (#[.int .i64 0,.int .i64 0,.int .u64 0,.int .u64 0,.int .i64 0][a % 5]!)=true
  generalize a % 5=b at *
  match b with
  |0=>rfl
  |1=>rfl
  |2=>rfl
  |3=>rfl
  |4=>rfl
  |b+5=>omega
 have C:=run_storeCells_cells (P:=prog) g o (Builtin.zeroCells (Value.agg #[.int .i64 0,.int .i64 0,.int .u64 0,.int .u64 0,.int .i64 0]).cells k).toList 0 w (by simpa [E] using I) (by simpa [E] using J) h1;simp only[bm_]at C;have O:(zeroValue 49).run prog w=.ok (.agg #[.int .i64 0,.int .i64 0,.int .u64 0,.int .u64 0,.int .i64 0]) w:=by kernel_rfl
 cases k with
 |zero=>simp[Builtin.clear_,run_underlying underlying26,Builtin.zeroCells,World.setCells]
 |succ k=>simp[Builtin.clear_,run_underlying underlying26,O,C]
theorem fw1 {P:It->Bool} {l:List It} {q:Nat} (h:q < l.length):(l.take (q+1)).filter P=(l.take q).filter P++(if P l[q]=true then [l[q]] else []):=by
 rw[r_ h,aQ_,ar_,List.filter_nil]
theorem bw5 {P:It->Bool} {l:List It} (h:l.any P=true):(l.take (l.findIdx P+1)).filter (fun y=>!P y)=l.take (l.findIdx P):=by
 have C:l.findIdx P < l.length:=bX_.2 (by simpa using h);rw[fw1 C];have h1:P l[l.findIdx P]=true:=bf_;have h2:(l.take (l.findIdx P)).filter (fun y=>!P y)=l.take (l.findIdx P):=az_.2 fun y E=>by
  obtain⟨i,hi,rfl⟩:=aF_.1 E;have:=bY_ (p:=P) (xs:=l) (i:=i) o_;simpa using this
 rw[h2];simp[h1]
structure Pk (cur cs:List Value) (cap p q:Nat) (L:List It):Prop where
 len:cs.length=cap *5
 pre:cs.take (p *5)=itc L
 post:cs.drop (q *5)=cur.drop (q *5)
 pl:L.length=p
theorem Pk.skip {cur cs:List Value} {cap p q:Nat} {L:List It} (h:Pk cur cs cap p q L):Pk cur cs cap p (q+1) L:=
 ⟨h.len,h.pre,by rw[show (q+1)*5=q *5+5 by omega,<-aZ_,h.post,aZ_],h.pl⟩
theorem Pk.keep {cur cs:List Value} {cap p q:Nat} {L:List It} (h:Pk cur cs cap p q L) (E:p < q) (H:q < cap) (y:It):Pk cur (cs.take (p *5)++(y.cells++cs.drop (p *5+y.cells.length))) cap (p+1) (q+1) (L++[y]):=by
 have I:=h.len;have C:=h.pl;refine⟨by simp only[d_,v_,I_,It.gq];omega,?_,?_,by simp[C]⟩
 ·rw[<-K_,ae_ (by simp only[d_,v_,It.gq];omega),g_ (by simp only[d_,v_,It.gq];omega),h.pre,lq]
  simp[itc]
 ·rw[<-K_,show (q+1)*5=(cs.take (p *5)++y.cells).length+((q - p)*5) by simp only[d_,v_,It.gq];omega,bK_,aZ_,aG_ o_,C_]
  have:=h.skip.post;rw[show p *5+y.cells.length+((cs.take (p *5)++y.cells).length+(q - p)*5 - (cs.take (p *5)++y.cells).length)=(q+1)*5 by simp only[d_,v_,It.gq];omega,this]
  congr 1
  simp only[d_,v_,It.gq];omega
theorem rx1 (K:Nat) (hF:∀args w,(callFunc K args).run prog w=.ok (.enter K args) w) (a0:Array Value) (P:It->Bool) (base:Nat) (A:Option Addr) (n c2 cap:Nat) (l:List It) (w:World) (hn:n<=1000000) (j2:n<=c2) (j3:c2<=cap) (a1:base<=w.heap.size) (ho:w.ownsRow base 49 5 (.slice A n cap) n (itc l))
  (hK:∀x w1,(∀F,(∀a,A=some a->F=[a.block])->Chg F w w1)->Calls prog K (#[x.val] ++a0) w1 fun e w'=>e=.returned (.bool (P x))/\Below w1.heap.size w1 w'):
  Calls prog 156 #[.slice A n c2,.func (.func K) #[] a0] w fun e w'=>∃k A',e=.returned (.slice A' k c2)/\k=(l.filter fun y=>!P y).length/\w'.ownsRow base 49 5 (.slice A' k cap) k (itc (l.filter fun y=>!P y))/\Below base w w':=by
 have I:=xx3 K hF a0 P A n c2 l w hn (Row.own ho) (fun x w1 hb=>hK x w1 (fun F _=>Chg.of_below hb F));have b7:l.length=n:=by have:=ho.1;rw[jk]at this;omega
 cases H:l.any P with
 |false=>
  rw[bj1 H]at I;have d':(l.filter fun y=>!P y)=l:=az_.2 fun y hy=>by
   have:=(X_.1 H) y hy;simpa using this
  have HF:=H_ d';have HO:=H_ ho;have HI:=H_ I;have g':=H_ b7;clear I H d' ho hK b7;go_enter func156,ntmps156;go_wp2_with fail;refine HI.out.mono ?_;rintro e w1 ⟨rfl,Z⟩;go_wp2;go_ret;exact⟨n,A,rfl,by rw[HF.out];exact g'.out.symm,by rw[HF.out];exact own_below HO.out Z,Z.mono a1⟩
 |true=>
  rcases ho.2 with ⟨hv0,h0⟩|⟨g,i6,cur,h6,e0,a2,j7,h7,h8,b8⟩
  ·subst h0
   have:l=[]:=ag_.1 b7;subst this
   cases H
  injection h6 with hA _ hc;subst hA hc;have hB:BoxO w 49 g cur.toList:=by unfold BoxO;simpa using a2
  have h9:cur.toList.length=cap *5:=by simpa using h8
  generalize cur.toList=cu at *;obtain⟨k0,e3,j',h',e4⟩:=mv3 H;have a4:=bw5 H;rw[e4]at a4;rw[e3]at I;have e5:Pk cu cu cap k0 (k0+1) ((l.take (k0+1)).filter fun y=>!P y):=by
   rw[a4];exact⟨h9,by rw[dz1,<-b8,aV_,a0_ o_],rfl,by rw[v_];omega⟩
  have HI:=H_ I;have e6:=H_ e5;have HB:=H_ hB;have HF:=H_ hF;have HK:=H_ hK;have i0:=H_ b8;have k2:k0 < n:=o_
  unfold maxLen at h7;clear I e5 a4 H h' e4 e3 hF hK b8 a2 ho hB;go_enter func156,ntmps156;go_wp2_with fail;refine HI.out.mono ?_;rintro e w1 ⟨rfl,Z⟩;have e9:=HB.out.below Z;have e':Chg [g] w w1:=Chg.of_below Z [g];have e1:((k0:Int)==-1)=false:=by rw[beq_eq_false_iff_ne];omega
  have f5:=H_ e9;clear HI HB e9 Z;go_wp2_with fail
  go_loopw [5,6] (fun i j wr=>∃p q:Nat,p < q/\q<=n/\i=.int .i64 (p:Int)/\j=.int .i64 (q:Int)/\Hid (∃cs,BoxO wr 49 g cs/\Pk cu cs cap p q ((l.take q).filter fun y=>!P y))/\Chg [g] w wr) (fun i j _=>n - (intOf j).toNat)
  case atStart=>exact⟨k0,k0+1,o_,o_,rfl,by go_num,H_ ⟨cu,f5.out,e6.out⟩,e'⟩
  case round=>
   obtain⟨p,q,i1,k4,rfl,rfl,a8,hC⟩:=hrel;clear f5 e6 e' e1
   by_cases k5:q < n
   ·obtain⟨cs,Q,pk⟩:=a8.out
    have hl:q < l.length:=o_
    have hq:∀t v,t < 5->(l[q]).cells[t]?=some v->wr.cell? ⟨g,q *5+t,none⟩=some v:=fun t v ht hv=>by
     rw[Q.cell,show cs[q *5+t]?=(cs.drop (q *5))[t]? by rw[ax_],pk.post,ax_,<-hv,<-jj2 l q t hl ht,<-i0.out,a1_,if_pos o_]
    have f6:=fw1 (P:=fun y=>!P y) hl;generalize l[q]=y at *;have d0:=hq 0 _ o_ rfl;rw[bm_]at d0;have d1:=hq 1 _ o_ rfl;have d2:=hq 2 _ o_ rfl;have d3:=hq 3 _ o_ rfl;have d4:=hq 4 _ o_ rfl;have U:Chg [g] w (wr.alloc (.cells #[.int .i64 y.s,.int .i64 y.k,.int .u64 (y.t:Int),.int .u64 (y.v:Int),.int .i64 y.x] 49)):=hC.alloc _;have hk:=HK.out y (wr.alloc (.cells #[.int .i64 y.s,.int .i64 y.k,.int .u64 (y.t:Int),.int .u64 (y.v:Int),.int .i64 y.x] 49)) (fun F hF=>by rw[hF _ rfl];exact U);have b':=BoxO.new wr #[.int .i64 y.s,.int .i64 y.k,.int .u64 (y.t:Int),.int .u64 (y.v:Int),.int .i64 y.x] 49;have a5:=Q.alloc (.cells #[.int .i64 y.s,.int .i64 y.k,.int .u64 (y.t:Int),.int .u64 (y.v:Int),.int .i64 y.x] 49);unfold It.val at hk;obtain⟨b,hb⟩:=n_ (P y);rw[<-hb]at hk;have f7:=H_ f6;have HB:=H_ hb;have a9:=H_ pk;have c9:=H_ hk;have k7:(q:Int) < (n:Int):=o_
    have k8:(p:Int) < (n:Int):=o_
    clear f6 hb pk hk hq Q a8 hl;go_wp2_with fail;rw[HF.out,Oper.upon_enter];refine c9.out.mono ?_;rintro e w2 ⟨rfl,c'⟩;have J:=b'.below c';have C:=a5.below c';have f8:Chg [g] w w2:=U.trans (Chg.of_below c' []) (fun g hg=>by cases hg);generalize wr.heap.size=bv at *
    cases b with
    |true=>
     have O:Pk cu cs cap p (q+1) ((l.take (q+1)).filter fun y=>!P y):=by
      rw[f7.out,<-HB.out];simpa using a9.out.skip
     have a6:=H_ O;clear O d0 d1 d2 d3 d4 c9 b' a5 U;go_wp2;go_roundw
     case rel=>exact⟨p,q+1,o_,o_,rfl,by go_num,H_ ⟨cs,C,a6.out⟩,f8⟩
     case measure=>simp[intOf];omega
    |false=>
     have O:=a9.out.keep i1 o_ y;have f9:((l.take (q+1)).filter fun y=>!P y)=((l.take q).filter fun y=>!P y)++[y]:=by
      rw[f7.out,<-HB.out];rfl
     rw[<-f9]at O;have f':=BoxO.stores y.cells (p *5) w2 cs C (by have:=a9.out.len;rw[It.gq];omega);have g0:=ax1 g y.cells (p *5) w w2 f8;have E:∀t,t < 5->∃u,w2.cell? ⟨g,p *5+t,none⟩=some u:=fun t ht=>⟨cs[p *5+t]'(by have:=a9.out.len;omega),by rw[C.cell];exact h_ _⟩;obtain⟨u0,s0⟩:=E 0 o_;obtain⟨u1,s1⟩:=E 1 o_;obtain⟨u2,s2⟩:=E 2 o_;obtain⟨u3,s3⟩:=E 3 o_;obtain⟨u4,s4⟩:=E 4 o_;have z0:=C.free (p *5);have z1:=C.free (p *5+1);have z2:=C.free (p *5+2);have z3:=C.free (p *5+3);have z4:=C.free (p *5+4);have b0:=J.cell 0;have b1:=J.cell 1;have b2:=J.cell 2;have b3:=J.cell 3;have b4:=J.cell 4;simp only[gE0,gE1,bm_]at b0 b1 b2 b3 b4 s0;have a6:=H_ O;have g1:=H_ (c_ f' g0);clear O f9 f' g0 E d0 d1 d2 d3 d4 c9 b' a5 U J C;go_wp2;go_roundw
     case rel=>exact⟨p+1,q+1,o_,o_,by go_num,by go_num,H_ ⟨_,g1.out.1,a6.out⟩,g1.out.2⟩
     case measure=>simp[intOf];omega
   ·obtain rfl:q=n:=o_
    obtain⟨cs,Q,pk⟩:=a8.out;have a':=pk.pl;obtain⟨zs,i5,g2⟩:=cv2 wr g (p *5) (q - p) (fun j hj=>by rw[Q.cell,h_ (by have:=pk.len;omega)];rfl) (fun j hj=>Q.free _);obtain⟨W2,d5⟩:=n_ (wr.setCells g (p *5) zs);have d6:=BoxO.stores zs (p *5) wr cs Q (by have:=pk.len;omega);have U:=ax1 g zs (p *5) w wr hC;rw[<-d5]at d6 U;simp only[<-d5]at g2;have b5:(l.take q).filter (fun y=>!P y)=l.filter (fun y=>!P y):=by rw[g_ o_]
    rw[b5]at pk a';have b6:W2.ownsRow base 49 5 (.slice (some ⟨g,0,none⟩) p cap) p (itc (l.filter fun y=>!P y)):=by
     refine⟨by rw[jk,a'],.inr ⟨g,cap,_,rfl,e0,d6,o_,by unfold maxLen;omega,?_,?_⟩⟩
     ·have:=pk.len
      simp only[aA_,d_,v_,I_];omega
     ·rw[bl_,ae_ (by have:=pk.len;rw[v_];omega),aV_,Nat.min_self,pk.pre]
    have g4:=H_ (c_ a'.symm (c_ b6 (U.below a1 (by simpa using e0))));have l4:((q:Int) < (q:Int))=False:=eq_false o_;have l5:¬(c2=p):=o_
    have i9:(p:Int)<=(q:Int):=o_
    have i':p<=q:=o_
    have l6:p<=c2:=o_
    have j0:(p:Int)<=(c2:Int):=o_
    clear Q pk a' i5 d6 U b5 b6 a8 hC d5;go_wp2_with fail;go_ret;exact⟨p,_,rfl,g4.out⟩
theorem my3 (K:Nat) (hF:∀args w,(callFunc K args).run prog w=.ok (.enter K args) w) (C:Array Value) (P:It->Bool) (base:Nat) (A:Option Addr) (n cap:Nat) (l:List It) (w:World) (Z:n<=1000000) (E:base<=w.heap.size) (O:w.ownsRow base 49 5 (.slice A n cap) n (itc l))
  (hK:∀x H,(∀F,(∀a,A=some a->F=[a.block])->Chg F w H)->Calls prog K (#[x.val] ++C) H fun e w'=>e=.returned (.bool (P x))/\Below H.heap.size H w'):
  Calls prog 156 #[.slice A n cap,.func (.func K) #[] C] w fun e w'=>∃k A' Q,e=.returned (.slice A' k Q)/\k=(l.filter fun y=>!P y).length/\w'.ownsRow base 49 5 (.slice A' k Q) k (itc (l.filter fun y=>!P y))/\Below base w w':=by
 have I:n<=cap:=by
  rcases O.2 with ⟨_,h0⟩|⟨g,U,cur,J,_,_,h1,_⟩
  ·omega
  ·injection J with _ _ I
   subst I;exact h1
 exact(rx1 K hF C P base A n cap cap l w Z I l_ E O hK).mono fun _ _ ⟨k,A',h1,h2⟩=>⟨k,A',cap,h1,h2⟩
theorem eq3 {l:List It} (h:qx l) (x:It) (E:pos l x < l.length) (hs:It.same l[pos l x] x=true):yz l x= !(x.wins l[pos l x])/\put l x=l.set (pos l x) x:=by
 refine⟨?_,wk5 h (h_ E) hs⟩;unfold yz
 cases H:x.wins l[pos l x] with
 |false=>exact ay_.2 ⟨_,u_ E,by simp[hs,H]⟩
 |true=>
  rw[ca_,X_];intro y I C;simp only[G_,av_]at C;have:y=l[pos l x]:=mj1 h I (u_ E) (by have:=C.1;rw[It.same_iff]at *;omega);rw[this,H]at C
  cases C.2
theorem xj3 {l:List It} (h:qx l) (x:It) (hs:(l.any fun y=>y.same x)=false):yz l x=false/\put l x=l.take (pos l x)++x::l.drop (pos l x):=by
 rw[X_]at hs;refine⟨?_,gz4 h (fun y C=>?_)⟩
 ·unfold yz
  rw[X_];intro y C E;simp only[G_]at E;exact hs y C E.1
 ·have:=hs y (t_ C)
  simpa using this
theorem uj5 {base g n cap i:Nat} {l:List It} {w:World} (x:It) (ho:w.ownsRow base 49 5 (.slice (some ⟨g,0,none⟩) n cap) n (itc l)) (hi:i < n):
  (w.setCells g (i *5) x.cells).ownsRow base 49 5 (.slice (some ⟨g,0,none⟩) n cap) n (itc (l.set i x))/\(∀t,t < 5->∃u,w.cell? ⟨g,i *5+t,none⟩=some u)/\(∀t,w.frozen? ⟨g,t,none⟩=false):=by
 have H:=ho.1;rw[jk]at H
 rcases ho.2 with ⟨_,h0⟩|⟨g',a4,cur,I,J,E,O,Q,U,Z⟩
 ·omega
 injection I with C a5 a0;injection C with C;injection C with C;subst C a0;have hB:BoxO w 49 g cur.toList:=by unfold BoxO;simpa using E
 have a6:cur.toList.length=cap *5:=by simpa using U
 refine⟨⟨by rw[jk,aE_];omega,.inr ⟨g,cap,_,rfl,J,BoxO.stores x.cells (i *5) w _ hB (by rw[It.gq];omega),O,Q,?_,?_⟩⟩,fun t ht=>⟨cur.toList[i *5+t]'o_,by rw[hB.cell];exact h_ _⟩,fun t=>hB.free t⟩
 ·simp only[aA_,d_,v_,I_,It.gq]
  omega
 ·have e1:itc (l.set i x)=(itc l).take (i *5)++(x.cells++(itc l).drop ((i+1)*5)):=by
   rw[a2_,if_pos o_,lq,dz1,<-pq1];rfl
  rw[e1,<-Z,aV_,a0_ o_,List.drop_take,bl_,It.gq,<-K_,<-K_,List.take_append,g_ (by simp only[d_,v_,It.gq];omega)]
  congr 2
  ·simp only[d_,v_,It.gq]
   omega
  ·rw[show i *5+5=(i+1)*5 by omega]
theorem sj5 (A:Option Addr) (n c:Nat) (l:List It) (w:World) (Z:n<=1000000) (O:Row w.heap.size w A n 5 (itc l)):
  Calls prog 127 #[.slice A n c] w fun e w'=>∃A' C,e=.returned (.slice A' n C)/\w'.ownsRow w.heap.size 49 5 (.slice A' n C) n (itc l)/\Below w.heap.size w w':=by
 obtain⟨Q,E,H,I,J⟩:=info_parts qw;have U:=H_ O;clear O;go_enter func127,ntmps127;go_wp2_with (at_builtin;refine iy ?_);refine bz (vw rfl _ (.tmp 3) _ rfl w.heap.size 49 Q _ 5 40 underlying26 E H I J rfl o_ w b0_ l_ rfl w.heap.size A n c (itc l) rfl U.out (uj l) (by unfold maxLen;omega) o_ ?_);intro A' C w' h1 h2 h3 h4 h5;go_wp2;go_ret;exact⟨_,_,rfl,h1,h2⟩
theorem ej5 (x y:It) (b:Nat) (w:World) (O:BoxO w 49 b x.cells):
  Calls prog 192 (#[y.val] ++#[.pointer (some ⟨b,0,none⟩)]) w fun e w'=>e=.returned (.bool (x.hides y))/\Below w.heap.size w w':=by
 have E:=fun W=>sv2 x y W;have H:=b_ w (.cells #[.int .i64 y.s,.int .i64 y.k,.int .u64 (y.t:Int),.int .u64 (y.v:Int),.int .i64 y.x] 49);have C:=O.alloc (.cells #[.int .i64 y.s,.int .i64 y.k,.int .u64 (y.t:Int),.int .u64 (y.v:Int),.int .i64 y.x] 49);have Q:=C.cell 0;have b1:=C.cell 1;have b2:=C.cell 2;have U:=C.cell 3;have b4:=C.cell 4;unfold It.val at E ⊢;simp only[It.cells,gE0,gE1]at Q b1 b2 U b4;have Z:=H_ E;clear E O C;go_enter func192,ntmps192;go_wp2_with fail;refine(Z.out _).mono ?_;rintro e w1 ⟨rfl,I⟩;have J:=az H I;go_wp2;go_ret;exact⟨rfl,J⟩
theorem qj2 (x:It) (b base:Nat) (A:Option Addr) (n cap:Nat) (l:List It) (w:World) (O:n<=1000000) (C:base<=w.heap.size) (Q:w.ownsRow base 49 5 (.slice A n cap) n (itc l)) (H:BoxO w 49 b x.cells) (U:(Value.slice A n cap).ownBlock≠some b):
  Calls prog 156 #[.slice A n cap,.func (.func 192) #[] #[.pointer (some ⟨b,0,none⟩)]] w fun e w'=>∃k A' I,e=.returned (.slice A' k I)/\k=(l.filter fun y=>!x.hides y).length/\w'.ownsRow base 49 5 (.slice A' k I) k (itc (l.filter fun y=>!x.hides y))/\Below base w w':=by
 refine my3 192 (fun _ _=>rfl) #[.pointer (some ⟨b,0,none⟩)] (fun y=>x.hides y) base A n cap l w O C Q (fun y Z J=>ej5 x y b Z ?_)
 cases A with
 |none=>exact H.chg (J [] (fun a E=>by cases E)) s_
 |some a=>exact H.chg (J [a.block] (fun a' E=>by injection E with E;rw[E])) (by
   intro h;exact U (by rw[a_.1 h];rfl))
theorem bk6 {base g n cap k:Nat} {l:List It} {w:World} (C:w.ownsRow base 49 5 (.slice (some ⟨g,0,none⟩) n cap) n (itc l)) (E:k < l.length):∀t v,t < 5->(l[k]).cells[t]?=some v->w.cell? ⟨g,k *5+t,none⟩=some v:=by
 intro t v H I;have J:=Row.own C;have:=J.cells (k *5+t) v ((jj2 l k t E H).trans I)
 rwa [Addr.add_lit,an_]at this
def ux2 (base:Nat) (w:World) (R:List It) (e:Ending) (w':World):Prop:=∃k A' c',e=.returned (.slice A' k c')/\k=R.length/\w'.ownsRow base 49 5 (.slice A' k c') k (itc R)/\Below base w w'
theorem kz37 {P S a oi v} (h:Hv P S a oi v:=by intro w C;(obtain⟨⟨c0,c1,c2,c3,c4⟩,d0,d1,d2,d3,d4⟩:=KC.out w C);go_simp;try (with_reducible rfl)):Hv P S a oi v:=h
theorem kz38 {P S a oi v} (h:Hv P S a oi v:=by intro w C;skip;go_simp;try (with_reducible rfl)):Hv P S a oi v:=h
theorem ly5 (base:Nat) (A:Option Addr) (n cap:Nat) (l:List It) (x:It) (w:World) (hn:n<=999999) (e2:base<=w.heap.size) (hS:Stt l) (ho:w.ownsRow base 49 5 (.slice A n cap) n (itc l)):
  Calls prog 129 #[.slice A n cap,x.val] w (ux2 base w (add l x)):=by
 have k4:l.length=n:=by have:=ho.1;rw[jk]at this;omega
 have b3:=(Below.refl base w).alloc e2 (.cells #[.int .i64 x.s,.int .i64 x.k,.int .u64 (x.t:Int),.int .u64 (x.v:Int),.int .i64 x.x] 49);have a0:=own_below ho (b_ w (.cells #[.int .i64 x.s,.int .i64 x.k,.int .u64 (x.t:Int),.int .u64 (x.v:Int),.int .i64 x.x] 49));have a4:BoxO (w.alloc (.cells #[.int .i64 x.s,.int .i64 x.k,.int .u64 (x.t:Int),.int .u64 (x.v:Int),.int .i64 x.x] 49)) 49 w.heap.size x.cells:=BoxO.new w #[.int .i64 x.s,.int .i64 x.k,.int .u64 (x.t:Int),.int .u64 (x.v:Int),.int .i64 x.x] 49;have a5:(Value.slice A n cap).ownBlock≠some w.heap.size:=fun h=>by have:=(ho.lt _ h).2;omega
 obtain⟨g,hg⟩:=n_ w.heap.size;obtain⟨V,hV⟩:=n_ (w.alloc (.cells #[.int .i64 x.s,.int .i64 x.k,.int .u64 (x.t:Int),.int .u64 (x.v:Int),.int .i64 x.x] 49));have J:base<=V.heap.size:=by rw[hV];simp;omega
 rw[<-hg]at a4 a5;rw[<-hV]at b3 a0 a4;have e4:=fun W=>sk1 x W;have e5:=fun W (hW:Below V.heap.size V W)=>oy2 A n cap l x W o_ hS.rises hS.ok (Row.own (own_below a0 hW));have e6:=fun W (hW:Below V.heap.size V W)=>dv3 A n cap l x W o_ hS.rises (Row.own (own_below a0 hW));have g4:∀w',Below V.heap.size V w'->w'.cell? ⟨g,0,none⟩=some (.int .i64 x.s)/\w'.cell? ⟨g,1,none⟩=some (.int .i64 x.k)/\w'.cell? ⟨g,2,none⟩=some (.int .u64 (x.t:Int))/\w'.cell? ⟨g,3,none⟩=some (.int .u64 (x.v:Int))/\w'.cell? ⟨g,4,none⟩=some (.int .i64 x.x):=fun w' hb=>by
  have hB:=a4.below hb;exact⟨hB.cell 0,hB.cell 1,hB.cell 2,hB.cell 3,hB.cell 4⟩
 have g6:=eq3 hS.rises x;have g7:=xj3 hS.rises x;have g8:=iw3 hS.rises x;have g9:=ey2 hS.rises x;have l8:=cx3 l x;obtain⟨R,hR⟩:=n_ (add l x);rw[<-hR];unfold add at hR;unfold It.val at e4 e5 e6 ⊢;generalize (l.any fun y=>y.same x)=b at *;generalize pos l x=r at *;generalize k7:x.ok=o1 at *;generalize k8:hidden l x=o2 at *;have a6:∀w',R=l->Below V.heap.size V w'->ux2 base w R (.returned (.slice A n cap)) w':=fun w' h hb=>by
  rw[h];exact⟨n,A,cap,rfl,k4.symm,own_below a0 hb,b3.trans (hb.mono J)⟩
 have g':=H_ e4;have h6:=H_ e5;have h7:=H_ e6;have b6:=H_ g4;have e7:=H_ g6;have e9:=H_ g7;have e':=H_ g8;have f5:=H_ g9;have HR:=H_ hR;have b7:=H_ a6;have a7:=H_ a0;have f6:=H_ a4;have HV:=H_ hV;have HG:=H_ hg;clear e4 e5 e6 g4 g6 g7 g8 g9 hR a6 a0 a4 hV hg k7 k8 ho;go_enter func129,ntmps129;go_wp2_with fail;rw[<-HV.out,<-HG.out];refine(g'.out _).mono ?_;rintro e w1 ⟨rfl,a8⟩;obtain⟨x0,x1,x2,x3,x4⟩:=b6.out _ a8
 cases o1 with
 |false=>
  have h1:=b7.out w1 (by rw[HR.out];rfl) a8;have H1:=H_ h1;clear h1;go_wp2;go_ret;exact H1.out
 |true=>
  go_wp2_with fail;refine(h6.out _ a8).mono ?_;rintro e w2 ⟨rfl,d5⟩;have a9:=az a8 d5;clear x0 x1 x2 x3 x4;obtain⟨x0,x1,x2,x3,x4⟩:=b6.out _ a9
  cases o2 with
  |true=>
   have h1:=b7.out w2 (by rw[HR.out];rfl) a9;have H1:=H_ h1;clear h1;go_wp2;go_ret;exact H1.out
  |false=>
   go_wp2_with fail;refine(h7.out _ a9).mono ?_;rintro e w3 ⟨rfl,d6⟩;have O:=az a9 d6;clear x0 x1 x2 x3 x4 a8 d5 a9 d6 g' h6 h7;have m6:=f6.out.lt
   cases b with
   |true=>
    have f7:r < l.length:=by
     rcases ah_ r l.length with h|h
     ·exact h
     ·have:=f5.out o_
      cases this
    have i5:=e'.out f7;obtain⟨a1,Q⟩:=e7.out f7 i5
    rcases a7.out.2 with ⟨_,h0⟩|⟨g0,l9,cur,k9,k',_,m7,_⟩
    ·omega
    injection k9 with hA _ hc;subst hA hc;have hq:=bk6 (own_below a7.out O) f7;have b9:=fun W=>fk2 x l[r] W;clear i5;generalize l[r]=y at *;have i6:∀w',Below w3.heap.size w3 w'->(w'.cell? ⟨g,0,none⟩=some (.int .i64 x.s)/\w'.cell? ⟨g,1,none⟩=some (.int .i64 x.k)/\w'.cell? ⟨g,2,none⟩=some (.int .u64 (x.t:Int))/\w'.cell? ⟨g,3,none⟩=some (.int .u64 (x.v:Int))/\w'.cell? ⟨g,4,none⟩=some (.int .i64 x.x))/\w'.cell? ⟨g0,r *5,none⟩=some (.int .i64 y.s)/\w'.cell? ⟨g0,r *5+1,none⟩=some (.int .i64 y.k)/\w'.cell? ⟨g0,r *5+2,none⟩=some (.int .u64 (y.t:Int))/\w'.cell? ⟨g0,r *5+3,none⟩=some (.int .u64 (y.v:Int))/\w'.cell? ⟨g0,r *5+4,none⟩=some (.int .i64 y.x):=fun w' hb=>by
     have l1:=a7.out.lt g0 rfl;have hc:=fun j=>hb.cell (p:=⟨g0,j,none⟩) (N_ l1.2 O.size);exact⟨b6.out _ (O.trans (hb.mono O.size)),(hc _).trans (hq 0 _ o_ rfl),(hc _).trans (hq 1 _ o_ rfl),(hc _).trans (hq 2 _ o_ rfl),(hc _).trans (hq 3 _ o_ rfl),(hc _).trans (hq 4 _ o_ rfl)⟩
    unfold It.val at b9;obtain⟨q,i7⟩:=n_ (x.wins y);rw[<-i7]at b9 a1;have KC:=H_ i6;have HW:=H_ b9;have i8:=H_ a1;have l3:=H_ Q;have m9:(r:Int) < (n:Int):=o_
    clear i6 b9 a1 Q i7 hq e7 e9 e' f5;go_wp2_with fail;refine w_h w3 fun C=>?_;refine w_v 0 C ?_ (k:=kz37);go_simp;refine w_v 1 C ?_ (k:=kz37);go_simp;refine w_v 2 C ?_ (k:=kz37);go_simp;refine w_v 3 C ?_ (k:=kz37);go_simp;refine w_v 4 C ?_ (k:=kz37);go_simp;refine w_v 5 C ?_ (k:=kz37);go_simp;refine w_v 6 C ?_ (k:=kz37);go_simp;refine w_r 7 fun K hK=>?_;go_simp
    with_reducible refine(HW.out _).mono ?_
    rintro e w4 ⟨rfl,i9⟩;go_simp;refine hK.out _ _ (C.trans (i9.mono C.size)) ?_;clear C hK K;intro C;go_simp;refine w_v 8 C ?_ (k:=kz37);go_simp;refine w_v 9 C ?_ (k:=kz37);go_simp;refine w_v 10 C ?_ (k:=kz37);go_simp;refine w_d ?_;have I:=O.trans (C.mono O.size);generalize w4=w5 at *;clear i9
    cases q with
    |false=>
     have h1:=b7.out w5 (by rw[HR.out,i8.out];rfl) I;have H1:=H_ h1;clear h1 C KC HW;go_wp2;go_ret;exact H1.out
    |true=>
     have b0:R=(l.set r x).filter fun y=>!x.hides y:=by
      rw[HR.out,i8.out,l3.out];rfl
     obtain⟨⟨x0,x1,x2,x3,x4⟩,_⟩:=KC.out _ C;obtain⟨a2,E,H⟩:=uj5 x (own_below a7.out I) (show r < n by omega);obtain⟨u0,s0⟩:=E 0 o_;obtain⟨u1,s1⟩:=E 1 o_;obtain⟨u2,s2⟩:=E 2 o_;obtain⟨u3,s3⟩:=E 3 o_;obtain⟨u4,s4⟩:=E 4 o_;have z0:=H (r *5);have z1:=H (r *5+1);have z2:=H (r *5+2);have z3:=H (r *5+3);have z4:=H (r *5+4);rw[bm_]at s0;have hC:=ax1 g0 x.cells (r *5) w5 w5 (Chg.refl _ _);have d7:=(f6.out.below I).chg hC (by
      intro h;exact a5 (by rw[a_.1 h];rfl))
     have U:=qj2 x g base _ n cap _ _ o_ (j_ (j_ J I.size) hC.size) a2 d7 a5;rw[<-b0]at U;have i':Below base w (w5.setCells g0 (r *5) x.cells):=(b3.trans (I.mono J)).trans (hC.below (j_ J I.size) (by simpa using k'));have b1:=H_ (c_ U i');clear U i' d7 hC a2 E H KC HW C b0;go_wp2_with fail;refine b1.out.1.mono ?_;rintro e w7 ⟨k,A',c',rfl,hk,b2,Z⟩;have H7:ux2 base w R (.returned (.slice A' k c')) w7:=⟨k,A',c',rfl,hk,b2,b1.out.2.trans Z⟩;have H8:=H_ H7;clear H7 b2 Z hk;go_wp2;go_ret;exact H8.out
   |false=>
    obtain⟨a1,Q⟩:=e9.out rfl;have b0:R=(l.take r++x::l.drop r).filter fun y=>!x.hides y:=by
     rw[HR.out,a1,Q];rfl
    have l5:=H_ b0;clear a1 Q b0 e7 e9 e' f5 b7;go_wp2_with fail;refine w_h w3 fun C=>?_;refine w_v 0 C ?_ (k:=kz38);go_simp;refine w_v 1 C ?_ (k:=kz38);go_simp;refine wpT0 (i:=2) C ?_;go_simp;refine wpT0 (i:=3) C ?_;go_simp;refine wpT0 (i:=4) C ?_;go_simp;refine wpT0 (i:=5) C ?_;go_simp;refine wpT0 (i:=6) C ?_;go_simp;refine wpT0 (i:=7) C ?_;go_simp;refine wpT0 (i:=8) C ?_;go_simp;refine w_v 9 C ?_ (k:=kz38);go_simp;refine w_v 10 C ?_ (k:=kz38);go_simp;refine w_d ?_;have I:=O.trans (C.mono O.size);obtain⟨w5,j3⟩:=n_ w3.drew;rw[<-j3]at I ⊢;clear C j3;obtain⟨x0,x1,x2,x3,x4⟩:=b6.out _ I;have a2:=own_below a7.out I;have f9:=b_ w5 (.cells #[.int .i64 x.s,.int .i64 x.k,.int .u64 (x.t:Int),.int .u64 (x.v:Int),.int .i64 x.x] 49);have b':=az I f9;have f':=own_below a2 f9;have j4:BoxO (w5.alloc (.cells #[.int .i64 x.s,.int .i64 x.k,.int .u64 (x.t:Int),.int .u64 (x.v:Int),.int .i64 x.x] 49)) 49 w5.heap.size x.cells:=BoxO.new w5 #[.int .i64 x.s,.int .i64 x.k,.int .u64 (x.t:Int),.int .u64 (x.v:Int),.int .i64 x.x] 49;have j5:∀a,A=some a->w5.heap.size≠a.block:=fun a ha h=>by
     subst ha;have:=(a2.lt a.block rfl).2;omega
    have d8:=fk4 base A n cap r l x w5.heap.size _ o_ o_ (j_ J b'.size) f' j4 j5;have d9:=H_ d8;have c9:=H_ b';have l6:=H_ (b3.trans (b'.mono J));have l7:=H_ f';clear d8 j4 j5 f' a2 f9 b' I;go_wp2_with fail;refine d9.out.mono ?_;rintro e w7 ⟨A',c',rfl,b2,Z,j6⟩;have d':BoxO w7 49 g x.cells:=(f6.out.below c9.out).chg Z (fun h=>a5 (by simpa using h));have e0:(Value.slice A' (n+1) c').ownBlock≠some g:=by
     rcases j6 with h|h
     ·rw[h];exact a5
     ·rw[h]
      intro h2;injection h2 with h2;have:=c9.out.size;omega
    have e1:=Z.below (B:=base) (j_ J c9.out.size) (fun b hb=>(l7.out.lt b (by simpa using hb)).1);have U:=qj2 x g base A' (n+1) c' _ w7 o_ (j_ (j_ J c9.out.size) Z.size) b2 d' e0;rw[<-l5.out]at U;have b1:=H_ (c_ U (l6.out.trans e1));clear U d' e0 b2 j6 Z e1 d9;go_wp2_with fail;refine b1.out.1.mono ?_;rintro e w8 ⟨k,A2,c2,rfl,hk,j7,j8⟩;have H7:ux2 base w R (.returned (.slice A2 k c2)) w8:=⟨k,A2,c2,rfl,hk,j7,b1.out.2.trans j8⟩;have H8:=H_ H7;clear H7 j7 j8 hk;go_wp2;go_ret;exact H8.out
end Go.Proofs.YtkdbagdiplpcfaaGreatDoor
