/- Texts OwnA, PlainList, PlainAwake, PlainMrg, WithoutA, RefK, RefL, RefM, RefT, Look, EditsW, OpenG, EditsOpen, LawC, LawM, HosP, HosM, Env in one. No conditions. -/
import Derived.Test.YthjdpplgfdihoaaGreatDoorBunAT
import Derived.Test.YthjdpplgfdihoaaGreatDoorBunAR
import Derived.Stop.LaidErr
import Derived.LaidHandle

set_option linter.unusedSimpArgs false
set_option linter.unusedVariables false
set_option maxRecDepth 100000
set_option maxHeartbeats 16000000
namespace Go.Proofs.YthjdpplgfdihoaaGreatDoor
section
open Go Go.RowKit Go.Lib
theorem jz4 (K:Nat) (hF:∀args w,(callFunc K args).run Tryz.prog w=.ok (.enter K args) w) (cap:Array Value) (P:List UInt8→Bool) (A:Option Addr) (n c:Nat) (l:List (List UInt8)) (w:World) (hn:n≤1000000) (hr:Row w.heap.size w A n 1 (l.map Go.Proofs.encStr))
  (hK:∀x w1,x∈l→Below w.heap.size w w1→Calls Tryz.prog K (#[.string (str x)] ++cap) w1 fun e w'=>e=.returned (.bool (P x))∧Below w1.heap.size w1 w'):
  Calls Tryz.prog 224 #[.slice A n c,.func (.func K) #[] cap] w fun e w'=>e=.returned (.int .i64 (fidx P l))∧Below w.heap.size w w':=by
 have hnn:n=l.length:=by
  have:=hr.len;simp at this;omega
 have HK:=H_ hK;have HF:=H_ hF;have HNN:=H_ hnn;clear hK hF hnn;go_enter Tryz.func224,Tryz.ntmps224;go_wp2
 go_loopw [8] (fun i wr=>∃k:Nat,k≤n∧i=.int .i64 (k:Int)∧Hid ((l.take k).any P=false)∧Below w.heap.size w wr) (fun i _=>n - (intOf i).toNat)
 case atStart=>exact⟨0,t_ _,rfl,H_ rfl,Below.refl _ _⟩
 case round=>
  obtain⟨k,hk,rfl,hb,hbl⟩:=hrel
  by_cases hlt:k < n
  ·obtain⟨a,hl,rfl,hbk,c0⟩:=(hr.below hbl).enc hlt
   have ht:=mz1 (P:=P) hl;have hs:=fun h1=>fw1 (P:=P) hl hb.out h1;have hc:=HK.out l[k] wr (v_ hl) hbl;generalize l[k]=f at *;have HT:=H_ ht;have HS:=H_ hs;clear ht hs hl;generalize hp:P f=p at hc;have HP:=H_ hp;clear hp;go_wp2_with fail;rw[HF.out,Oper.upon_enter];refine hc.mono ?_;rintro e w1 ⟨rfl,hb1⟩
   cases p with
   |true=>
    go_wp2;go_ret;exact⟨uy1 (HS.out HP.out).symm,az hbl hb1⟩
   |false=>
    go_wp2;go_roundw
    case rel=>exact⟨k+1,by omega,by go_num,H_ (by rw[HT.out,hb.out,HP.out];rfl),az hbl hb1⟩
    case measure=>simp[intOf];omega
  ·have hall:fidx P l=-1:=zq (by
    have hb':=hb.out
    rwa [i_ (by have:=HNN.out;omega)]at hb')
   have HA:=H_ hall;clear hall;go_wp2;go_ret;exact⟨uy1 HA.out.symm,hbl⟩
theorem lj3 (K:Nat) (hF:∀args w,(callFunc K args).run Tryz.prog w=.ok (.enter K args) w) (cap:Array Value) (P:List UInt8→Bool) (A:Option Addr) (n c:Nat) (l:List (List UInt8)) (w:World) (hn:n≤1000000) (hr:Row w.heap.size w A n 1 (l.map Go.Proofs.encStr))
  (hK:∀x w1,x∈l→Below w.heap.size w w1→Calls Tryz.prog K (#[.string (str x)] ++cap) w1 fun e w'=>e=.returned (.bool (P x))∧Below w1.heap.size w1 w'):
  Calls Tryz.prog 148 #[.slice A n c,.func (.func K) #[] cap] w fun e w'=>e=.returned (.bool (l.any P))∧Below w.heap.size w w':=by
 have hge:=wx1 P l;have hq:=jz4 K hF cap P A n c l w hn hr hK;clear hK;generalize fidx P l=i at *;have HGE:=H_ hge;clear hge;go_enter Tryz.func148,Tryz.ntmps148;go_wp2_with fail;refine hq.mono ?_;rintro e w1 ⟨rfl,hb⟩;clear hq;go_wp2;go_ret;exact⟨ix1 HGE.out,hb⟩
theorem yz1 (x l:List UInt8):((str x).toList==l)=(x==l):=by
 rw[ByteArray.toList_eq];rfl
theorem lx4 (x k:List UInt8) (hx:x.length≤1000) (hk:k.length≤1000) (g:Nat) (w:World) (h:Env w) (hc:w.cell? ⟨g,0,none⟩=some (.string (str x))):
  Calls Tryz.prog 225 #[.string (str k),.pointer (some ⟨g,0,none⟩)] w fun e w'=>e=.returned (.bool (Mn.number x k).isSome)∧Below w.heap.size w w':=by
 have hn:=ly1 (str x) (str k) (by rw[kz];omega) (by rw[kz];omega) w h;rw[nz,nz]at hn;obtain⟨o,ho⟩:=n_ (Mn.number x k);rw[←ho]at hn ⊢;have HN:=H_ hn;clear hn ho h;unfold numV at HN
 cases o<;>
 ·simp only at HN
  go_enter Tryz.func225,Tryz.ntmps225;go_wp2_with fail;refine HN.out.mono ?_;rintro e w1 ⟨rfl,hb⟩;go_wp2;go_ret;exact⟨rfl,hb⟩
theorem rz2 (x:List UInt8) (hx:x.length≤1000) (w:World) (h:Env w):
  Calls Tryz.prog 150 #[.string (str x)] w fun e w'=>e=.returned (.bool (St.by1 x))∧Below w.heap.size w w':=by
 have e1:((str x).toList==[99,117,114,114,101,110,116])=(x==Mw.kCur):=yz1 x Mw.kCur;have e2:((str x).toList==[99,117,114,114,101,110,116,46,116,109,112])=(x==Mw.jk):=yz1 x Mw.jk;have hR:St.by1 x=((x==Mw.kCur||x==Mw.jk)||[Mn.kLog,Mn.kTab,Mn.kMan].any fun k=>(Mn.number x k).isSome):=rfl;generalize St.by1 x=R at *;have hV:=b_ w (.cells #[.string (str x)] 9);have hcall:∀V e,Below w.heap.size w V→V.cell? ⟨w.heap.size,0,none⟩=some (.string (str x))→BoxO V e (w.heap.size+1) [.string (str Mn.kLog),.string (str Mn.kTab),.string (str Mn.kMan)]→
   Calls Tryz.prog 148 #[.slice (some ⟨w.heap.size+1,0,none⟩) 3 3,.func (.func 225) #[] #[.pointer (some ⟨w.heap.size,0,none⟩)]] V fun e w'=>e=.returned (.bool ([Mn.kLog,Mn.kTab,Mn.kMan].any fun k=>(Mn.number x k).isSome))∧Below V.heap.size V w':=by
  intro V e hb hc hbx;have hr:Row V.heap.size V (some ⟨w.heap.size+1,0,none⟩) 3 1 ([Mn.kLog,Mn.kTab,Mn.kMan].map Go.Proofs.encStr):=⟨rfl,fun j hj=>⟨_,rfl,hbx.lt,by
   have h1:=hbx.cell j;have e0:(⟨w.heap.size+1,0,none⟩:Addr).add j=⟨w.heap.size+1,j,none⟩:=by
    simp[Addr.add];omega
   rw[e0,h1];exact j_ hj⟩⟩
  refine lj3 225 (fun _ _=>rfl) _ _ _ 3 3 _ V (by omega) hr ?_;intro k w1 hk hb1;have hkl:k.length≤1000:=by
   simp only[g_,ca_,or_false]at hk
   rcases hk with rfl|rfl|rfl<;>decide
  have hlt:w.heap.size < V.heap.size:=by have:=hbx.lt;omega
  exact lx4 x k hx hkl w.heap.size w1 ((h.below hb).below hb1) ((hb1.cell (p:=⟨w.heap.size,0,none⟩) hlt).trans hc)
 have HC:=H_ hcall;clear hcall h
 cases hb1:(x==Mw.kCur) with
 |true=>
  rw[hb1]at e1 hR;have HR:=H_ hR;clear hR e2 HC;go_enter Tryz.func150,Tryz.ntmps150;go_wp2;go_ret;exact⟨by rw[HR.out];rfl,hV⟩
 |false=>
  cases hb2:(x==Mw.jk) with
  |true=>
   rw[hb1]at e1 hR;rw[hb2]at e2 hR;have HR:=H_ hR;clear hR HC;go_enter Tryz.func150,Tryz.ntmps150;go_wp2;go_ret;exact⟨by rw[HR.out];rfl,hV⟩
  |false=>
   rw[hb1]at e1 hR;rw[hb2]at e2 hR;generalize ([Mn.kLog,Mn.kTab,Mn.kMan].any fun k=>(Mn.number x k).isSome)=q at *;have HR:=H_ hR;clear hR;go_enter Tryz.func150,Tryz.ntmps150;go_wp2_with fail;have hVV:=hV.alloc hV.size (.cells #[.string (str Mn.kLog),.string (str Mn.kTab),.string (str Mn.kMan)] 9);refine(HC.out _ 9 hVV (by simp) (by
    have:=BoxO.new (w.alloc (.cells #[.string (str x)] 9)) #[.string (str Mn.kLog),.string (str Mn.kTab),.string (str Mn.kMan)] 9;simpa using this)).mono ?_
   rintro e w1 ⟨rfl,hb1⟩;have hbz:=az hVV hb1;clear hVV;go_wp2;go_ret;exact⟨by rw[HR.out];rfl,hbz⟩
theorem sq4 (X:Dw) (S:Sd) (x:List UInt8) (hx:x.length≤1000) (g:Nat) (w:World) (h:Dm w X S) (hc:w.cell? ⟨g,0,none⟩=some (.pointer (some ⟨X.d,0,none⟩))):
  Calls Tryz.prog 149 #[.string (str x),.pointer (some ⟨g,0,none⟩)] w fun e w'=>e=.returned (.bool (St.by1 x&&!St.isNone S x))∧Below w.heap.size w w':=by
 have e1:((str x).toList==[99,117,114,114,101,110,116,46,116,109,112])=(x==Mw.jk):=yz1 x Mw.jk;have e2:((str x).toList==[109,97,110,46,49])=(x==St.aq4):=yz1 x St.aq4;have e3:((str x).toList==[108,111,103,46,49])=(x==St.jy):=yz1 x St.jy;have hrd:=(Acc.start (F:=[]) h).read (str x) (by rw[kz];unfold maxLen;omega);rw[nz]at hrd;have hio:=fun W hb=>rz2 x hx W (h.env.below (w':=W) hb);have hR:(St.by1 x&&!St.isNone S x)=(St.by1 x&&!((x==Mw.jk||x==St.aq4)||(x==St.jy&&(S.read x).1.length==0))):=rfl;obtain⟨R,hRe⟩:=n_ ((St.by1 x&&!St.isNone S x));rw[←hRe]at hR ⊢;generalize St.by1 x=o at *;obtain⟨n,hn⟩:=n_ ((S.read x).1.length);rw[←hn]at hrd hR;have e4:((n:Int)==0)=(n==0):=by
  rw[cc_];simp
 generalize (S.read x).2=er at *;have HRD:Hid (Calls Tryz.prog 25 #[.pointer (some ⟨X.d,0,none⟩),.string (str x)] w fun e w'=>∃A c,e=.returned (.tuple #[.slice A n c,.int .i64 (er:Int)])∧Below w.heap.size w w'):=H_ (hrd.mono fun _ _ ⟨A,c,h1,_,h2⟩=>⟨A,c,h1,h2⟩);have HIO:=H_ hio;clear hrd hio h hn hRe;generalize (x==Mw.jk)=b1 at *;generalize (x==St.aq4)=b2 at *;generalize (x==St.jy)=b3 at *;generalize (n==0)=b4 at *;have HR:=H_ hR;clear hR
 cases o<;>cases b1<;>cases b2<;>cases b3<;>cases b4
 all_goals
 ·go_enter Tryz.func149,Tryz.ntmps149
  go_wp2_with fail;refine HRD.out.mono ?_;rintro e w1 ⟨A,c,rfl,hb1⟩;go_wp2_with fail;refine(HIO.out _ hb1).mono ?_;rintro e w2 ⟨rfl,hb2⟩;have hbz:=az hb1 hb2;clear hb1 hb2;go_wp2;go_ret;exact⟨by rw[HR.out];rfl,hbz⟩
theorem eq4 (X:Dw) (S:Sd) (w:World) (h:Dm w X S):
  Calls Tryz.prog 77 #[.pointer (some ⟨X.d,0,none⟩)] w fun e w'=>e=.returned (.bool (St.fy4 S))∧Below w.heap.size w w':=by
 have hV:=b_ w (.cells #[.pointer (some ⟨X.d,0,none⟩)] 23);have hp:(w.alloc (.cells #[.pointer (some ⟨X.d,0,none⟩)] 23)).cell? ⟨w.heap.size,0,none⟩=some (.pointer (some ⟨X.d,0,none⟩)):=by simp
 have hlt:w.heap.size < (w.alloc (.cells #[.pointer (some ⟨X.d,0,none⟩)] 23)).heap.size:=by simp
 obtain⟨W,hW⟩:=n_ (w.alloc (.cells #[.pointer (some ⟨X.d,0,none⟩)] 23));rw[←hW]at hV hp hlt;have h1:=h.below hV;have hls:=(Acc.start (F:=[]) h1).list;have hR:St.fy4 S= !(S.list.any fun s=>St.by1 s&&!St.isNone S s):=rfl;generalize St.fy4 S=R at *;have hnl:=pz1 h.wf;have hnm:=lv1 h.wf;have HLS:=H_ hls;have HR:=H_ hR;have HV:=H_ hW;have H1:=H_ h1;have HP:=H_ hp;clear hls hR h h1 hW;generalize hq:(S.list.any fun s=>St.by1 s&&!St.isNone S s)=q at *;have HQ:=H_ hq;clear hq;go_enter Tryz.func77,Tryz.ntmps77;go_wp2_with fail;rw[←HV.out];refine HLS.out.mono ?_;rintro e w1 ⟨A,c,rfl,ho,hb1⟩;have hcf:=lj3 149 (fun _ _=>rfl) #[.pointer (some ⟨w.heap.size,0,none⟩)] (fun s=>St.by1 s&&!St.isNone S s) A S.list.length c S.list w1 (by omega) (Row.own ho) (fun x w2 hx hb2=>sq4 X S x (by have:=oz1 (hnm x hx);omega) w.heap.size w2 (H1.out.below (az hb1 hb2)) (((az hb1 hb2).cell (p:=⟨w.heap.size,0,none⟩) hlt).trans HP.out));rw[HQ.out]at hcf;have HCF:=H_ hcf;clear hcf ho;go_wp2_with fail;refine HCF.out.mono ?_;rintro e w2 ⟨rfl,hb2⟩;have hbz:=az hV (az hb1 hb2);clear hb1 hb2;go_wp2;go_ret;exact⟨by rw[HR.out];rfl,hbz⟩
end
section
open Go
namespace Ls
section
variable (L:Sd→List (List UInt8))
end
end Ls
end
section
open Go
namespace Aw
end Aw
end
section
open Go
namespace St
def writes (lev:Int):List (List It)→Sd→List ((Int×Int)×List (List It))→Sd×List ((Int×Int)×List (List It))×Nat
 |[],S,acc=>(S,acc,0)
 |r::rs,S,acc=>if (write S r).2≠0 then ((write S r).1,acc,(write S r).2) else writes lev rs (write S r).1 (acc++[((lev,number S),Tb.rows r)])
theorem ky1 {lev:Int}:∀{xs bs:List (List It)} {S:Sd} {acc:List ((Int×Int)×List (List It))},writes lev (xs++bs) S acc=if (writes lev xs S acc).2.2≠0 then writes lev xs S acc else writes lev bs (writes lev xs S acc).1 (writes lev xs S acc).2.1
 |[],bs,S,acc=>rfl
 |a::xs,bs,S,acc=>by
  rw[N_]
  by_cases h:(write S a).2≠0
  ·simp only[writes,if_pos h]
  ·simp only[writes,if_neg h]
   exact ky1
def drops:List Int→Sd→Sd
 |[],S=>S
 |n::r,S=>drops r (S.remove (Mn.name Mn.kTab n)).1
theorem ww2:∀{xs bs:List Int} {S:Sd},drops (xs++bs) S=drops bs (drops xs S)
 |[],_,_=>rfl
 |a::xs,bs,S=>ww2 (xs:=xs)
def mergeD (tabs:List ((Int×Int)×List (List It))) (next:List It) (V:Sv):Sv:={ V with tabs:=tabs,st:=next }
def merge (S:Sd) (V:Sv) (inn:List Int) (lev:Int) (l next:List It):Sd×Sv×Nat:=
 let a:=writes lev (Tb.cut 200 l.length l) S []
 if a.2.2≠0 then (a.1,V,a.2.2) else
 let r:=turn a.1 V ⟨inn,a.2.1.map (·.1),0,0,0,0,0⟩ (mergeD (V.tabs.filter (fun t=>!decide (t.1.2∈inn))++a.2.1) next)
 if r.2.2=0 then (drops inn r.1,r.2.1,0) else r
theorem sk3 {S S1:Sd} {V:Sv} {inn:List Int} {lev:Int} {l next:List It} {pre:List (List It)} {r:List It} {acc:List ((Int×Int)×List (List It))} (hp:pre++[r]=(Tb.cut 200 l.length l).take (pre.length+1)) (hw:writes lev pre S []=(S1,acc,0)) (he:(write S1 r).2≠0):
  merge S V inn lev l next=((write S1 r).1,V,(write S1 r).2):=by
 have hc:Tb.cut 200 l.length l=(pre++[r])++(Tb.cut 200 l.length l).drop (pre.length+1):=by rw[hp,aa_]
 have h1:writes lev (pre++[r]) S []=((write S1 r).1,acc,(write S1 r).2):=by
  rw[ky1,hw,if_neg (by simp)];simp only[writes,if_pos he]
 have h2:writes lev (Tb.cut 200 l.length l) S []=((write S1 r).1,acc,(write S1 r).2):=by rw[hc,ky1,h1,if_pos he]
 unfold merge;simp only[h2,if_pos he]
theorem lq3 {S S1:Sd} {V:Sv} {inn:List Int} {lev:Int} {l next:List It} {acc:List ((Int×Int)×List (List It))} (hw:writes lev (Tb.cut 200 l.length l) S []=(S1,acc,0)):
  merge S V inn lev l next=if (turn S1 V ⟨inn,acc.map (·.1),0,0,0,0,0⟩ (mergeD (V.tabs.filter (fun t=>!decide (t.1.2∈inn))++acc) next)).2.2=0 then (drops inn (turn S1 V ⟨inn,acc.map (·.1),0,0,0,0,0⟩ (mergeD (V.tabs.filter (fun t=>!decide (t.1.2∈inn))++acc) next)).1,(turn S1 V ⟨inn,acc.map (·.1),0,0,0,0,0⟩ (mergeD (V.tabs.filter (fun t=>!decide (t.1.2∈inn))++acc) next)).2.1,0) else turn S1 V ⟨inn,acc.map (·.1),0,0,0,0,0⟩ (mergeD (V.tabs.filter (fun t=>!decide (t.1.2∈inn))++acc) next):=by
 unfold merge;simp only[hw];rw[if_neg (by simp)]
def pk1 (S:Sd) (V:Sv) (v:Nat):Sd×Sv×Nat:=
 let a:=flush S V
 if a.2.2≠0 then a else
 if (fz1 a.2.1.st v).length=a.2.1.st.length then (a.1,a.2.1,0) else
 merge a.1 a.2.1 (a.2.1.tabs.map fun t=>t.1.2) 3 (fz1 (clean (Mg.rows (a.2.1.tabs.map fun t=>t.2.flatten))) v) (fz1 a.2.1.st v)
end St
end
section
open Go Go.RowKit Go.Lib
theorem ty2 (a:It) (v b:Nat) (w:World) (hc:w.cell? ⟨b,0,none⟩=some (.int .u64 (v:Int))):
  Calls Tryz.prog 218 (#[a.val] ++#[.pointer (some ⟨b,0,none⟩)]) w fun e w'=>e=.returned (.bool (a.k==1&&decide (a.v≤v)))∧Below w.heap.size w w':=by
 obtain⟨s1,k1,t1,v1,x1⟩:=a;have hb0:=b_ w (.cells #[.int .i64 s1,.int .i64 k1,.int .u64 (t1:Int),.int .u64 (v1:Int),.int .i64 x1] 36);have hc1:∀o,(w.alloc o).cell? ⟨b,0,none⟩=some (.int .u64 (v:Int)):=fun o=>(af_ w o _ (V_ w _ hc)).trans hc;obtain⟨r,hr⟩:=n_ ((k1==1&&decide (v1≤v)));unfold It.val;simp only;rw[←hr]
 by_cases h1:k1=1
 ·subst h1
  by_cases h2:(v1:Int)≤(v:Int)
  ·have HB:=H_ (hr.trans (show _=true by simp;omega))
   clear hr;go_enter Tryz.func218,Tryz.ntmps218;go_wp2;go_ret;exact⟨gy HB.out.symm,hb0⟩
  ·have HB:=H_ (hr.trans (show _=false by simp;omega))
   clear hr;go_enter Tryz.func218,Tryz.ntmps218;go_wp2;go_ret;exact⟨gy HB.out.symm,hb0⟩
 ·have e1:(k1==1)=false:=by simpa using h1
  have HB:=H_ (hr.trans (show _=false by simp[h1]));clear hr;go_enter Tryz.func218,Tryz.ntmps218;go_wp2;go_ret;exact⟨gy HB.out.symm,hb0⟩
end
section
open Go Go.RowKit Go.Lib
end
section
open Go Go.RowKit Go.Lib
end
section
open Go Go.RowKit Go.Lib
end
section
open Go Go.RowKit Go.Lib
end
section
open Go Go.RowKit Go.Shelf
namespace Gw
open Mn
open Mw (kCur)
end Gw
variable {m:Nat} {X X1:Dw} {w w1 w2:World} {S S1:Sd} {M M1:Gs}
end
section
open Go Go.RowKit
end
section
open Go Go.RowKit Go.Shelf
variable {m:Nat} {X X1:Dw} {w w1 w2:World} {S S1:Sd} {M M1:Gs}
end
section
open Go Go.RowKit Go.ChangeShapes Go.WideShapes Go.Deep Go.Joins
end
section
open Go Go.RowKit Go.Shelf
variable {W0 w w1 w2:World} {X X1:Dw} {S S1:Sd} {m m1 n:Nat} {M:Ms} {es:List Bv}
end
section
open Go Go.RowKit Go.Shelf
variable {P P1:Sl} {W0 w w1 w2:World} {X X1:Dw} {S S1:Sd} {m m1:Nat} {M M1:Gs}
end
section
open Go Go.RowKit
namespace Crc
end Crc
namespace Fr
end Fr
end
section
open Go Go.RowKit
namespace Gw
open Mn
open Mw (kCur jk headB sweep sz1)
theorem pk4 {d:Sd} (hw:d.Wf) (M:Gs) (nm:List UInt8):(fin d M nm).1.load≤d.load+64:=by
 have h1:=Sd.yx d;have h2:=pz1 hw.ay;have h3:=sz1 nm (d.ay).1.list (d.ay).1;unfold fin;split
 ·dsimp only;omega
 ·dsimp only;omega
theorem rq4 {d:Sd} (hw:d.Wf) (M:Gs) (nm:List UInt8):(ren d M nm).1.load≤d.load+65:=by
 have h1:=Sd.yv1 d jk kCur;have h2:=pk4 (hw.rename jk kCur) M nm;unfold ren;split
 ·dsimp only;omega
 ·omega
theorem pq4 {d:Sd} (hw:d.Wf) (M:Gs) (nm:List UInt8):(sd1 d M nm).1.load≤d.load+65:=by
 have h1:=Sd.yx d;have h2:=rq4 hw.ay M nm;unfold sd1;split
 ·dsimp only;omega
 ·omega
theorem xq3 {d:Sd} (hw:d.Wf) (M:Gs) (nm:List UInt8):(hd d M nm).1.load≤d.load+67:=by
 have h1:=Sd.yj d jk (headB ((number nm kMan).getD 0));have h2:=pq4 (hw.write jk (headB ((number nm kMan).getD 0))) M nm;unfold hd;split
 ·dsimp only;omega
 ·omega
theorem pv4 {d:Sd} (hw:d.Wf) (M:Gs) (nm:List UInt8):(tmp d M nm).1.load≤d.load+68:=by
 have h1:=Sd.bq1 d jk;have h2:=xq3 (hw.remove jk) M nm;have h3:=xq3 hw M nm;unfold tmp;split
 ·split
  ·dsimp only;omega
  ·omega
 ·omega
theorem uq2 {d:Sd} (hw:d.Wf) (M:Gs) (nm:List UInt8):(rewrite d M nm).1.load≤d.load+70:=by
 have h1:=Sd.yj d nm M.v.whole.rec_;have h2:=pv4 (hw.write nm M.v.whole.rec_) M nm;unfold rewrite;split
 ·dsimp only;omega
 ·omega
end Gw
end
section
open Go Go.Shelf Go.RowKit
theorem iv4: "*" ++ "errors.errorString" = "*errors.errorString" :=by decide
theorem vq4 (u:TypeId) (h:Tryz.prog.typeName? 3 u=some "*errors.errorString"):u=435:=
 typeName_ptr_named (nm:= "errors.errorString") (by rw[iv4];kernel_rfl) (by kernel_rfl) (by decide) u (by rw[iv4];exact h)
theorem gx5 {a b:String×DataW Unit} (W:World) (h:laidMet Tryz.prog [a,b,("internal/strconv.uint64pow10",Rows.laid_internal_strconv_uint64pow10),("strconv.ErrRange",Rows.laid_strconv_ErrRange),("strconv.ErrSyntax",Rows.laid_strconv_ErrSyntax)] W):Env W:=by
 have h2:=h.tail.tail;have ht:Lib.TabIs Tryz.prog W "internal/strconv.uint64pow10" .u64 Lib.pow10Tab:=
  Lib.tabIs_of_head (g:=gOf "internal/strconv.uint64pow10") (t:=416) (e:=22) (n:=20) ay5 (by kernel_rfl) Tryz.underlying416 Tryz.underlying22 (by kernel_rfl) (by kernel_rfl) h2
 obtain⟨a1,s1,hv1,_⟩:=laid_sentinel h2.tail (g:=gOf "strconv.ErrRange") cv5 (by kernel_rfl) Tryz.underlying334 vq4 Tryz.underlying435 Tryz.underlying437 rfl rfl Tryz.underlying9 (by kernel_rfl) (by kernel_rfl);obtain⟨a2,s2,hv2,_⟩:=laid_sentinel h2.tail.tail (g:=gOf "strconv.ErrSyntax") az5 (by kernel_rfl) Tryz.underlying334 vq4 Tryz.underlying435 Tryz.underlying437 rfl rfl Tryz.underlying9 (by kernel_rfl) (by kernel_rfl);exact⟨ht,⟨_,_,hv2⟩,⟨_,_,hv1⟩⟩
end
end Go.Proofs.YthjdpplgfdihoaaGreatDoor
