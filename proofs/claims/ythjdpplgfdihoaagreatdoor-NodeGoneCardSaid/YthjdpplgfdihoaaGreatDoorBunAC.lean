/- Texts NumB, NumC, AppF, PlainDisk, PlainDiskB, PlainName in one. No conditions. -/
import Derived.Test.YthjdpplgfdihoaaGreatDoorBunAA
import Derived.Lib.AtoiAll
import Derived.Lib.ItoaNum
import Derived.Lib.Strings

set_option linter.unusedSimpArgs false
set_option linter.unusedVariables false
set_option maxRecDepth 100000
set_option maxHeartbeats 16000000
namespace Go.Proofs.YthjdpplgfdihoaaGreatDoor
section
open Go.RowKit
theorem bw5 (x:UInt8):bits .and .u8 (x.toNat:Int) 127=((x.toNat % 128:Nat):Int):=by
 have key:∀y:Fin 256,bits .and .u8 ((y.val:Nat):Int) 127=((y.val % 128:Nat):Int):=by decide+kernel
 exact key ⟨x.toNat,x.toNat_lt⟩
theorem ew2 (y:Nat) (h:y < 18446744073709551616):IntKind.u64.wrap (y:Int)=(y:Int):=by
 rw[IntKind.wrap_u64];omega
theorem ex5 (acc m k:Nat) (ha:acc < 2 ^ k) (hm:m *2 ^ k < 18446744073709551616) (ha':acc < 18446744073709551616):bits .or .u64 (acc:Int) ((m *2 ^ k:Nat):Int)=((acc+m *2 ^ k:Nat):Int):=by
 have h1:((BitVec.ofNat 64 acc).toNat:Int)=(acc:Int):=by rw[BitVec.toNat_ofNat,X_ ha']
 have h2:((BitVec.ofNat 64 (m *2 ^ k)).toNat:Int)=((m *2 ^ k:Nat):Int):=by rw[BitVec.toNat_ofNat,X_ hm]
 rw[←h1,←h2,zx3,BitVec.toNat_or,BitVec.toNat_ofNat,BitVec.toNat_ofNat,X_ ha',X_ hm]
 congr 1
 rw[Nat.or_comm,Nat.mul_comm,←Nat.two_pow_add_eq_or_of_lt ha];omega
theorem gq5 (acc:Nat) (x:UInt8) (k:Nat) (hk:k≤9) (h9:k=9→x.toNat≤1) (ha:acc < 2 ^ (7 *k)):
  bits .or .u64 (acc:Int) (IntKind.u64.wrap (IntKind.u64.wrap (bits .and .u8 (x.toNat:Int) 127)*2 ^ (7 *k)))=((acc+x.toNat % 128 *2 ^ (7 *k):Nat):Int)∧acc+x.toNat % 128 *2 ^ (7 *k) < 2 ^ (7 *(k+1)):=by
 have hx:x.toNat % 128 < 128:=bm_ _ (by decide);have hp:2 ^ (7 *k)≤2 ^ 63:=bv_ (by decide) (by omega);have hm:x.toNat % 128 *2 ^ (7 *k) < 18446744073709551616:=by
  by_cases e:k=9
  ·subst e
   have:=h9 rfl;omega
  ·have h56:2 ^ (7 *k)≤2 ^ 56:=bv_ (by decide) (by omega)
   have:x.toNat % 128 *2 ^ (7 *k)≤127 *2 ^ 56:=Nat.mul_le_mul (by omega) h56;omega
 constructor
 ·rw[bw5,ew2 _ (by omega)]
  have e:((x.toNat % 128:Nat):Int)*2 ^ (7 *k)=((x.toNat % 128 *2 ^ (7 *k):Nat):Int):=by push_cast;rfl
  rw[e,ew2 _ hm,ex5 _ _ _ ha hm (by omega)]
 ·rw[Pn.pow7]
  have:x.toNat % 128 *2 ^ (7 *k)≤127 *2 ^ (7 *k):=aX_ _ (by omega);omega
theorem take_any (A:Option Addr) (N c:Nat) (l:List UInt8) (w:World) (hN:N≤1073741824) (hr:Row w.heap.size w A N 1 (bts l)):
  Calls Tryz.prog 154 #[.slice A N c] w fun e w'=>e=.returned (.tuple #[.int .u64 ((Pn.take l).1:Int),.int .i64 ((Pn.take l).2.1:Int),.int .i64 ((Pn.take l).2.2:Int)])∧w=w':=by
 have hln:=hr.xk;go_enter Tryz.func154,Tryz.ntmps154;go_wp2
 go_loop [2,9] (fun x i=>∃(k acc:Nat),k≤N∧k≤9∧acc < 2 ^ (7 *k)∧x=.int .u64 (acc:Int)∧i=.int .i64 (k:Int)∧Hid (Pn.take l=Pn.takeF k acc (l.drop k))) (fun _ i=>N - (intOf i).toNat)
 case atStart=>exact⟨0,0,t_ _,t_ _,by decide,rfl,rfl,H_ (by rfl)⟩
 case round=>
  obtain⟨k,acc,hk,hk9,hacc,rfl,rfl,hh⟩:=hrel
  by_cases hlt:k < N
  ·obtain⟨a,hl,rfl,_,hc⟩:=hr.bt hlt
   have hstep:Pn.take l=Pn.takeF k acc (l[k]::l.drop (k+1)):=by
    have h:Pn.take l=Pn.takeF k acc (l.drop k):=hh;rw[h,bx_ hl]
   generalize l[k]=x at *;have HS:=H_ hstep;have HA:=H_ hacc;clear hh hstep hacc;have hx:x.toNat < 256:=x.toNat_lt
   by_cases b1:(k=9∧1 < x.toNat)∨(0 < k∧x.toNat=0)
   ·have hr3:Pn.take l=(0,0,3):=by
     have h:Pn.take l=Pn.takeF k acc (x::l.drop (k+1)):=HS;rw[h,Pn.takeF,if_pos b1]
    have HR:=H_ hr3;clear hr3;have fin:Ending.returned (Value.tuple #[Value.int IntKind.u64 0,Value.int IntKind.i64 0,Value.int IntKind.i64 3])=.returned (.tuple #[.int .u64 ((Pn.take l).1:Int),.int .i64 ((Pn.take l).2.1:Int),.int .i64 ((Pn.take l).2.2:Int)]):=by
     have h:Pn.take l=(0,0,3):=HR;rw[h];rfl
    have FIN:=H_ fin;clear fin
    rcases b1 with ⟨b1,b2⟩|⟨b1,b2⟩
    ·subst b1
     have hc9:w.cell? { block:=a.block,off:=a.off+9 }=some (.int .u8 (x.toNat:Int)):=by simpa [Addr.add] using hc
     have c2:((1:Int) < (x.toNat:Int)):=by omega
     go_wp2;exact bodyPost_ret (v:=.tuple #[.int .u64 0,.int .i64 0,.int .i64 3]) (by simp[results,go_sem]) rfl ⟨FIN,rfl⟩
    ·by_cases b3:k=9
     ·subst b3
      have hc9:w.cell? { block:=a.block,off:=a.off+9 }=some (.int .u8 (x.toNat:Int)):=by simpa [Addr.add] using hc
      have c2:((1:Int) < (x.toNat:Int))=False:=by simp;omega
      have c4:((x.toNat:Int)==0)=true:=by simp;omega
      go_wp2;exact bodyPost_ret (v:=.tuple #[.int .u64 0,.int .i64 0,.int .i64 3]) (by simp[results,go_sem]) rfl ⟨FIN,rfl⟩
     ·have c1:((k:Int)==9)=false:=by simp;omega
      have c3:((0:Int) < (k:Int)):=by omega
      have c4:((x.toNat:Int)==0)=true:=by simp;omega
      go_wp2;exact bodyPost_ret (v:=.tuple #[.int .u64 0,.int .i64 0,.int .i64 3]) (by simp[results,go_sem]) rfl ⟨FIN,rfl⟩
   ·obtain⟨hm1,hm2⟩:=gq5 acc x k hk9 (fun e=>by omega) HA
    generalize hR:acc+x.toNat % 128 *2 ^ (7 *k)=R at hm1 hm2;have HM2:=H_ hm2;have HR:=H_ hR;clear hm2 hR
    by_cases b3:x.toNat < 128
    ·have c5:((x.toNat:Int) < 128):=by omega
     have hr3:Pn.take l=(R,k+1,0):=by
      have hR:acc+x.toNat % 128 *2 ^ (7 *k)=R:=HR;have h:Pn.take l=Pn.takeF k acc (x::l.drop (k+1)):=HS;rw[h,Pn.takeF,if_neg b1,if_pos b3,←hR,X_ b3]
     have fin:Ending.returned (Value.tuple #[Value.int IntKind.u64 ((R:Nat):Int),Value.int IntKind.i64 ((k:Int)+1),Value.int IntKind.i64 0])=.returned (.tuple #[.int .u64 ((Pn.take l).1:Int),.int .i64 ((Pn.take l).2.1:Int),.int .i64 ((Pn.take l).2.2:Int)]):=by
      rw[hr3];rfl
     have FIN:=H_ fin;clear fin hr3
     by_cases d1:k=9
     ·subst d1
      have hc9:w.cell? { block:=a.block,off:=a.off+9 }=some (.int .u8 (x.toNat:Int)):=by simpa [Addr.add] using hc
      have hm9:bits .or .u64 (acc:Int) (IntKind.u64.wrap (IntKind.u64.wrap (bits .and .u8 (x.toNat:Int) 127)*9223372036854775808))=(R:Int):=hm1;have c2:((1:Int) < (x.toNat:Int))=False:=by simp;omega
      have c4:((x.toNat:Int)==0)=false:=by simp;omega
      go_wp2;refine bodyPost_ret (v:=.tuple #[.int .u64 ((R:Nat):Int),.int .i64 10,.int .i64 0]) (by simp[results,go_sem]) rfl ⟨FIN,rfl⟩
     ·have c1:((k:Int)==9)=false:=by simp;omega
      by_cases d2:0 < k
      ·have c3:((0:Int) < (k:Int)):=by omega
       have c4:((x.toNat:Int)==0)=false:=by simp;omega
       go_wp2;refine bodyPost_ret (v:=.tuple #[.int .u64 ((R:Nat):Int),.int .i64 ((k:Int)+1),.int .i64 0]) (by simp[results,go_sem]) rfl ⟨FIN,rfl⟩
      ·have c3:((0:Int) < (k:Int))=False:=by simp;omega
       go_wp2;refine bodyPost_ret (v:=.tuple #[.int .u64 ((R:Nat):Int),.int .i64 ((k:Int)+1),.int .i64 0]) (by simp[results,go_sem]) rfl ⟨FIN,rfl⟩
    ·have c5:((x.toNat:Int) < 128)=False:=by simp;omega
     have c4:((x.toNat:Int)==0)=false:=by simp;omega
     have d1:k≠9:=by omega
     have c1:((k:Int)==9)=false:=by simp;omega
     have hnx:Pn.take l=Pn.takeF (k+1) R (l.drop (k+1)):=by
      have hR:acc+x.toNat % 128 *2 ^ (7 *k)=R:=HR;have h:Pn.take l=Pn.takeF k acc (x::l.drop (k+1)):=HS;rw[h,Pn.takeF,if_neg b1,if_neg b3,←hR,show x.toNat % 128=x.toNat - 128 from by omega]
     have HN:=H_ hnx;clear hnx
     by_cases d2:0 < k
     ·have c3:((0:Int) < (k:Int)):=by omega
      go_wp2
      go_round
      case rel=>exact⟨k+1,R,by omega,by omega,HM2,rfl,by go_num,HN⟩
      case measure=>simp[intOf];omega
     ·have c3:((0:Int) < (k:Int))=False:=by simp;omega
      go_wp2
      go_round
      case rel=>exact⟨k+1,R,by omega,by omega,HM2,rfl,by go_num,HN⟩
      case measure=>simp[intOf];omega
  ·have hr3:Pn.take l=(0,0,4):=by
    have h:Pn.take l=Pn.takeF k acc (l.drop k):=hh;rw[h,aq_ (by omega)];rfl
   have fin:Ending.returned (Value.tuple #[Value.int IntKind.u64 0,Value.int IntKind.i64 0,Value.int IntKind.i64 4])=.returned (.tuple #[.int .u64 ((Pn.take l).1:Int),.int .i64 ((Pn.take l).2.1:Int),.int .i64 ((Pn.take l).2.2:Int)]):=by
    rw[hr3];rfl
   have FIN:=H_ fin;clear fin hr3;go_wp2;exact bodyPost_ret (v:=.tuple #[.int .u64 0,.int .i64 0,.int .i64 4]) (by simp[results,go_sem]) rfl ⟨FIN,rfl⟩
end
section
open Go.RowKit
def u64v (ns:List Nat):List Value:=ns.map fun n:Nat=>.int .u64 (n:Int)
theorem gk3 (ns:List Nat) (k:Nat):(u64v ns)[k]?=(ns[k]?).map fun n:Nat=>.int .u64 (n:Int):=by simp[u64v]
theorem Row.un {B n:Nat} {w:World} {A:Option Addr} {ns:List Nat} (h:Row B w A n 1 (u64v ns)) {k:Nat} (hk:k < n):∃a,∃hl:k < ns.length,A=some a∧a.block < B∧w.cell? (a.add k)=some (.int .u64 ((ns[k]:Nat):Int)):=by
 obtain⟨a,v,e,hb,hv,hc⟩:=h.at1 hk;have hl:k < ns.length:=by
  have:=h.len;simp[u64v]at this;omega
 rw[gk3,j_ hl]at hv;injection hv with hv;subst hv;exact⟨a,hl,e,hb,hc⟩
theorem Row.hj5 {B n:Nat} {w:World} {A:Option Addr} {ns:List Nat} (h:Row B w A n 1 (u64v ns)):ns.length=n:=by
 have:=h.len;simp[u64v]at this;omega
theorem uq1 (ns:List Nat):(ns.flatMap Pn.put).length≤ns.length *10:=by
 induction ns with
 |nil=>simp
 |cons n r ih=>
  have:=(Pn.ik n).2;simp only[M_,e_,r_];omega
theorem sy4 (A:Option Addr) (N c:Nat) (l:List UInt8) (L:Option Addr) (m d:Nat) (ns:List Nat) (w:World) (hN:N≤1000000) (hm:m≤1000) (hr:Row w.heap.size w A N 1 (bts l)) (hq:Row w.heap.size w L m 1 (u64v ns)) (hns:∀n∈ns,n < 18446744073709551616):
  Calls Tryz.prog 306 #[.slice A N c,.slice L m d] w fun e w'=>∃A' M c',e=.returned (.slice A' M c')∧
   w'.ownsRow w.heap.size 5 1 (.slice A' M c') M (bts (l++Pn.list ns))∧M≤c'∧c'≤maxLen∧Below w.heap.size w w':=by
 have hln:=hr.xk;have hmn:=hq.hj5;have hcv:∀w,(convert 3 22 (.int .i64 (m:Int))).run Tryz.prog w=.ok (.int .u64 (m:Int)) w:=by
  intro w;have:(m:Int) % 18446744073709551616=(m:Int):=by omega
  simp[go_sem,convert,IntKind.wrap_u64,this]
 go_enter Tryz.func306,Tryz.ntmps306;go_wp2_with fail;refine(put_any A N c l m (by omega) w (by omega) hr).mono ?_;rintro e w1 ⟨A1,c1,rfl,ho1,hc1,hm1,hb1⟩;obtain⟨M1,hM1⟩:=n_ (N+(Pn.put m).length);have hM1b:M1≤N+10:=by have:=(Pn.ik m).2;omega
 rw[←hM1]at ho1 hc1 ⊢;have HM:=H_ hM1;clear hM1;go_wp2
 go_loopw [5,15] (fun o i wr=>∃(k:Nat) (A':Option Addr) (M c':Nat),k≤m∧o=.slice A' M c'∧i=.int .i64 (k:Int)∧wr.ownsRow w.heap.size 5 1 (.slice A' M c') M (bts (l++(Pn.put m++(ns.take k).flatMap Pn.put)))∧M≤c'∧c'≤maxLen∧Below w.heap.size w wr) (fun _ i _=>m - (intOf i).toNat)
 case atStart=>exact⟨0,A1,M1,c1,t_ _,rfl,rfl,by simpa using ho1,hc1,hm1,hb1⟩
 case round=>
  obtain⟨k,A',M,c',hk,rfl,rfl,hown,hc',hm',hb⟩:=hrel;have hML:M=N+((Pn.put m).length+((ns.take k).flatMap Pn.put).length):=by
   have h1:=hown.1;rw[pq]at h1;simp only[e_]at h1;omega
  have hMB:M≤N+10+10000:=by
   have h1:=uq1 (ns.take k);have h2:=(Pn.ik m).2;have h3:=List.length_take_le k ns;omega
  have HML:=H_ hML;clear hML
  by_cases hlt:k < m
  ·obtain⟨a,hl,rfl,hab,hc⟩:=(hq.below hb).un hlt
   have htk:ns.take (k+1)=ns.take k++[ns[k]]:=(aC_ hl).symm;have hnk:=hns ns[k] (v_ hl);generalize ns[k]=x at *;have HT:=H_ htk;clear htk;go_wp2_with fail;refine(put_any A' M c' (l++(Pn.put m++(ns.take k).flatMap Pn.put)) x hnk wr (by omega) (Row.own hown)).mono ?_;rintro e w2 ⟨A2,c2,rfl,ho2,hc2,hm2,hb2⟩;go_wp2;go_roundw
   case rel=>
    refine⟨k+1,A2,M+(Pn.put x).length,c2,by omega,rfl,by go_num,?_,hc2,hm2,az hb hb2⟩;have ht:ns.take (k+1)=ns.take k++[x]:=HT;rw[ht];have:=own_base ho2 hb.size;simpa [D_] using this
   case measure=>simp[intOf];omega
  ·have hkm:k=m:=by omega
   have hfin:l++(Pn.put m++(ns.take k).flatMap Pn.put)=l++Pn.list ns:=by
    rw[hkm,i_ (by omega),Pn.list,hmn]
   rw[hfin]at hown;go_wp2;go_ret;exact⟨A',M,c',rfl,hown,hc',hm',hb⟩
end
section
open Go Go.RowKit
theorem aw1 {P:Program} {w:World} {ops:Array Oper} {rest:List Oper} {o:Oper} {a:Act} {Q:Exit→Act→World→Prop} (hgd:o.guard=none) (s x:Operand) (t:TypeId)
  (ho:o.op=.call { callee:=.builtin .append,args:=#[s,x],argTypes:=#[t,t] })
  (base:Nat) (e:TypeId) (i:TypeInfo) (z:Value) (size bytes:Nat) (ht:P.underlying t=some (.slice e)) (hi:P.info? e=some i) (hz:i.zero=some z)
  (hsize:i.size=size) (hby:i.bytes=bytes) (hzs:z.cells.size=size) (hsz:0 < size) (w0:World) (hb:Below base w0 w) (hbase:base≤w.heap.size) (v:Value) (n:Nat) (xs:List Value) (hs:a.eval s=v) (hown:w.ownsRow base e size v n xs)
  (B:Nat) (A:Option Addr) (m c:Nat) (hm:0 < m) (news:List Value) (hx:a.eval x=.slice A m c) (hr:Row B w A m size news) (h1:∀u∈news,u.oneCell'=true)
  (N:Nat) (X:List Value) (hN:n+m=N) (hX:xs++news=X) (h63:N≤maxLen) (hbytes:N *bytes≤140737488355328)
  (h:∀A' c' w',w'.ownsRow base e size (.slice A' N c') N X→Below base w0 w'→w.grownBy w' v.ownBlock→N≤c'→c'≤maxLen→((Value.slice A' N c').ownBlock=v.ownBlock∨(Value.slice A' N c').ownBlock=some w.heap.size)→wpList P ops Q rest (a.put o.dst (.slice A' N c')) w'):wpList P ops Q (o::rest) a w:=by
 subst hN;subst hX;have hpos:0 < news.length:=by
  rw[hr.len];exact cg_ hm hsz
 obtain⟨a',rfl,_⟩:=hr.some_ hpos;obtain⟨v',w',hrun,h3,h4,_,h6⟩:=run_append_own_at (P:=P) (ty:=o.type) w base t e i z size bytes ht hi hz hsize hby hzs hsz v n xs hown a' m c news hr.len hr.cells h1 h63 hbytes hbase;obtain⟨A',c',rfl,h5,h7,_⟩:=dw h3;refine wpList_plain hgd fun _ hK=>?_;unfold Oper.wp execOp;simp only[ho,resolve,invoke,builtin,Sem.run_bind,Sem.run_pure,Result.andThen_ok,by_,aw_,bb_,hs,hx,hrun];exact hK _ _ (h A' c' w' h3 (xz1 hb hown h4 hbase) h4 h5 h7 h6)
end
section
open Go Go.RowKit
abbrev Nm:=List (List UInt8×Nat)
namespace Nm
def get (m:Nm) (s:List UInt8):Option Nat:=(m.find? fun p=>p.1==s).map (·.2)
def ins (x:List UInt8×Nat):Nm→Nm
 |[]=>[x]
 |y::r=>if bytesBefore x.1 y.1 then x::y::r else y::ins x r
def del (m:Nm) (s:List UInt8):Nm:=m.filter fun p=>!(p.1==s)
def put (m:Nm) (s:List UInt8) (i:Nat):Nm:=ins (s,i) (del m s)
def lit1 (p:List UInt8×Nat):Lit×DataW Unit:=(.string p.1,.lit (.int .i64 (p.2:Int)))
def enc (m:Nm):DataW Unit:=.map (m.map lit1)
def Apart (m:Nm):Prop:=m.Pairwise fun p q=>p.1≠q.1
theorem ak4 (x:List UInt8×Nat):∀m:Nm,DataW.insert (lit1 x) (m.map lit1)=(ins x m).map lit1
 |[]=>rfl
 |y::r=>by
  have ih:=ak4 x r;simp only[aw_,DataW.insert,ins];have e:(lit1 x).1.before (lit1 y).1=bytesBefore x.1 y.1:=rfl;rw[e];split
  ·simp
  ·simp[ih]
theorem jw2 (s:List UInt8) (m:Nm):(m.map lit1).filter (fun p=>!p.1.sameKey (.string s))=(del m s).map lit1:=by
 induction m with
 |nil=>rfl
 |cons y r ih=>
  have e:(lit1 y).1.sameKey (.string s)=(y.1==s):=rfl;simp only[aw_,bf_,e,del]at ih ⊢;split<;>simp_all
theorem cy4 (m:Nm) (s:List UInt8):(enc m).del (.string s)=enc (del m s):=by
 unfold enc DataW.del;simp only;rw[jw2]
theorem cj3 (m:Nm) (s:List UInt8) (i:Nat):(enc m).put (.string s) (.lit (.int .i64 (i:Int)))=enc (put m s i):=by
 unfold enc DataW.put put;simp only;rw[jw2,←ak4];rfl
theorem gy3 (s:List UInt8) (m:Nm):(m.map lit1).find? (fun p=>p.1.sameKey (.string s))=(m.find? fun p=>p.1==s).map lit1:=by
 induction m with
 |nil=>rfl
 |cons y r ih=>
  have e:(lit1 y).1.sameKey (.string s)=(y.1==s):=rfl;simp only[aw_,bJ_,e];split<;>simp_all
theorem lk2 (m:Nm) (s:List UInt8):Maps.has (enc m) (.string s)=(get m s).isSome:=by
 unfold enc get;have e:(m.map lit1).any (fun p=>p.1.sameKey (.string s))=((m.map lit1).find? (fun p=>p.1.sameKey (.string s))).isSome:=by
  rw[cc_,List.find?_isSome,aO_]
 rw[Maps.has_eq,e,gy3];simp
theorem yj3 (m:Nm) (s:List UInt8) (z:DataW Unit) {i:Nat} (h:get m s=some i):(enc m).atKey (.string s) z=.lit (.int .i64 (i:Int)):=by
 unfold enc DataW.atKey;simp only;rw[gy3];unfold get at h
 cases hf:m.find? (fun p=>p.1==s) with
 |none=>rw[hf]at h;cases h
 |some p=>rw[hf]at h;simp at h;simp[lit1,h]
theorem vy1 (m:Nm):Maps.size (enc m)=m.length:=by simp[enc,Maps.size_eq]
theorem get_mem {m:Nm} {s:List UInt8} {i:Nat} (h:get m s=some i):(s,i)∈m:=by
 unfold get at h
 cases hf:m.find? (fun p=>p.1==s) with
 |none=>rw[hf]at h;cases h
 |some p=>
  rw[hf]at h;have h1:=List.mem_of_find?_eq_some hf;have h2:=List.find?_some hf;simp at h h2;subst h;subst h2;exact h1
theorem dz3 {x y:List UInt8×Nat}:∀{m:Nm},y∈ins x m↔y=x∨y∈m
 |[]=>by simp[ins]
 |z::r=>by
  have ih:=@dz3 x y r;simp only[ins];split
  ·simp
  ·simp[ih,or_left_comm]
theorem cz1 {m:Nm} {s:List UInt8} {p:List UInt8×Nat}:p∈del m s↔p∈m∧p.1≠s:=by simp[del]
theorem vz {m:Nm} {s:List UInt8} {i:Nat} {p:List UInt8×Nat}:p∈put m s i↔p=(s,i)∨(p∈m∧p.1≠s):=by rw[put,dz3,cz1]
theorem av2 {m:Nm} (h:Apart m) {s:List UInt8} {i:Nat} (hm:(s,i)∈m):get m s=some i:=by
 unfold Apart at h
 induction m with
 |nil=>cases hm
 |cons y r ih=>
  obtain⟨h1,h2⟩:=Z_.1 h;unfold get;rw[bJ_]
  rcases g_.1 hm with rfl|hm
  ·simp
  ·have:=h1 _ hm
   simp only at this;rw[show (y.1==s)=false from by simpa using this];exact ih h2 hm
theorem dv2 (x:List UInt8×Nat):∀m:Nm,(ins x m).length=m.length+1
 |[]=>rfl
 |y::r=>by
  simp only[ins];split
  ·simp
  ·simp[dv2 x r]
theorem oj1 {m:Nm} (h:Apart m) (s:List UInt8):Apart (del m s):=List.Pairwise.filter _ h
theorem wj2 {x:List UInt8×Nat}:∀{m:Nm},Apart m→(∀p∈m,p.1≠x.1)→Apart (ins x m)
 |[],_,_=>by simp[ins,Apart]
 |y::r,h,hx=>by
  obtain⟨h1,h2⟩:=Z_.1 h;simp only[ins];split
  ·exact Z_.2 ⟨fun p hp=>fun e=>hx p hp e.symm,h⟩
  ·refine Z_.2 ⟨fun p hp=>?_,wj2 h2 (fun p hp=>hx p (by simp[hp]))⟩
   rcases dz3.1 hp with rfl|hp
   ·exact hx y (by simp)
   ·exact h1 p hp
theorem fq1 {m:Nm} (h:Apart m) (s:List UInt8) (i:Nat):Apart (put m s i):=wj2 (oj1 h s) (fun _ hp=>(cz1.1 hp).2)
theorem get_none {m:Nm} {s:List UInt8}:get m s=none↔∀p∈m,p.1≠s:=by
 unfold get;simp
theorem tx1 (m:Nm) (s:List UInt8):get (del m s) s=none:=get_none.2 fun _ hp=>(cz1.1 hp).2
theorem qq1 {m:Nm} (h:Apart m) {s t:List UInt8} (hne:t≠s):get (del m s) t=get m t:=by
 cases hg:get m t with
 |none=>exact get_none.2 fun p hp=>get_none.1 hg p (cz1.1 hp).1
 |some i=>exact av2 (oj1 h s) (cz1.2 ⟨get_mem hg,hne⟩)
theorem uv1 {m:Nm} (h:Apart m) (s:List UInt8) (i:Nat):get (put m s i) s=some i:=av2 (fq1 h s i) (vz.2 (.inl rfl))
theorem iz1 {m:Nm} (h:Apart m) {s t:List UInt8} (hne:t≠s) (i:Nat):get (put m s i) t=get m t:=by
 cases hg:get m t with
 |none=>
  refine get_none.2 fun p hp=>?_
  rcases vz.1 hp with rfl|⟨hp,_⟩
  ·exact fun e=>hne e.symm
  ·exact get_none.1 hg p hp
 |some j=>exact av2 (fq1 h s i) (vz.2 (.inr ⟨get_mem hg,hne⟩))
theorem pq1 (m:Nm) (s:List UInt8):(del m s).length≤m.length:=ay_ _ _
theorem jy2 {m:Nm} {s:List UInt8} {i:Nat} (h:get m s=some i):(del m s).length < m.length:=by
 have hm:=get_mem h;unfold del;refine List.length_filter_lt_length_iff_exists.2 ⟨_,hm,by simp⟩
theorem py1 (m:Nm) (s:List UInt8) (i:Nat):(put m s i).length≤m.length+1:=by
 rw[put,dv2];have:=pq1 m s;omega
end Nm
structure Tn where
 kind:Nat
 file:Nat
 a:List UInt8
 b:List UInt8
def Tn.go (t:Tn) (m:Nm):Nm:=
 if t.kind=1 then m.put t.a t.file
 else if t.kind=2 then match m.get t.a with
  |some i=>(m.put t.b i).del t.a
  |none=>m
 else if t.kind=3 then m.del t.a
 else m
structure Sd where
 quota:Nat
 files:List (List UInt8×Nat)
 names:Nm
 lasted:Nm
 turns:List Tn
 calls:Int
 dead:Bool
 stop:Nat
 fail:Nat
namespace Sd
variable (d:Sd)
def okCh (c:UInt8):Bool:=(decide (97≤c.toNat) &&decide (c.toNat≤122))||(decide (48≤c.toNat) &&decide (c.toNat≤57))||decide (c.toNat=46)
def named (s:List UInt8):Bool:=decide (1≤s.length) &&decide (s.length≤16) &&s.all okCh
def new (quota:Int):Sd:=⟨quota.toNat,[],[],[],[],0,false,0,0⟩
def call (names:List (List UInt8)):Sd×Nat:=
 if names.all named=false then (d,10)
 else
  let d1:={ d with calls:=wrap64 (d.calls+1) }
  if d.dead=true then (d1,50)
  else
   let d2:=if 0 < d.stop then { d1 with stop:=d.stop - 1,dead:=decide (d.stop - 1=0) } else d1
   if 0 < d.fail then
    let d3:={ d2 with fail:=d.fail - 1 }
    if d.fail - 1=0 then (d3,15) else (d3,0)
   else (d2,0)
def size (i:Nat):Nat:=(d.files.getD i ([],0)).1.length
def used:Nat:=(d.names.map fun p=>d.size p.2).sum
def create (s:List UInt8):Sd×Nat:=
 let c:=d.call [s]
 if c.2≠0 then c
 else if (d.names.get s).isSome then (c.1,12)
 else if 64≤d.names.length then (c.1,65)
 else ({ c.1 with names:=d.names.put s d.files.length,turns:=d.turns++[⟨1,d.files.length,s,[]⟩],files:=d.files++[([],0)] },0)
def append (s b:List UInt8):Sd×Nat:=
 let c:=d.call [s]
 if c.2≠0 then c
 else match d.names.get s with
  |none=>(c.1,11)
  |some i=>
   if 250000 < b.length∨250000 < d.size i+b.length then (c.1,2)
   else if d.quota < d.used+b.length then (c.1,15)
   else ({ c.1 with files:=d.files.set i ((d.files.getD i ([],0)).1++b,(d.files.getD i ([],0)).2) },0)
def read (s:List UInt8):List UInt8×Nat:=
 if named s=false then ([],10)
 else if d.dead=true then ([],50)
 else match d.names.get s with
  |none=>([],11)
  |some i=>((d.files.getD i ([],0)).1,0)
def sync (s:List UInt8):Sd×Nat:=
 let c:=d.call [s]
 if c.2≠0 then c
 else match d.names.get s with
  |none=>(c.1,11)
  |some i=>({ c.1 with files:=d.files.set i ((d.files.getD i ([],0)).1,d.size i) },0)
def rename (a b:List UInt8):Sd×Nat:=
 let c:=d.call [a,b]
 if c.2≠0 then c
 else if (d.names.get a).isNone then (c.1,11)
 else if a=b then (c.1,0)
 else ({ c.1 with names:=Tn.go ⟨2,0,a,b⟩ d.names,turns:=d.turns++[⟨2,0,a,b⟩] },0)
def remove (s:List UInt8):Sd×Nat:=
 let c:=d.call [s]
 if c.2≠0 then c
 else if (d.names.get s).isNone then (c.1,11)
 else ({ c.1 with names:=Tn.go ⟨3,0,s,[]⟩ d.names,turns:=d.turns++[⟨3,0,s,[]⟩] },0)
def ay:Sd×Nat:=
 let c:=d.call []
 if c.2≠0 then c
 else ({ c.1 with lasted:=d.names,turns:=[] },0)
def list:List (List UInt8):=if d.dead=true then [] else (d.names.map (·.1)).mergeSort fun x y=>decide (x≤y)
def load:Nat:=d.files.length+d.turns.length
def mj1 (m:Nm) (n:Nat):Prop:=∀p∈m,p.2 < n
structure Wf:Prop where
 quota:d.quota≤1099511627776
 file:∀i (h:i < d.files.length),d.files[i].2≤d.files[i].1.length∧d.files[i].1.length≤250000
 names:mj1 d.names d.files.length
 lasted:mj1 d.lasted d.files.length
 apart:Nm.Apart d.names
 lapart:Nm.Apart d.lasted
 most:d.names.length≤64
 turn:∀t∈d.turns,t.file≤d.files.length∧(t.kind=1→t.file < d.files.length)
 gnames:∀p∈d.names,named p.1=true
 glasted:∀p∈d.lasted,named p.1=true
 gturns:∀t∈d.turns,named t.a=true∧(t.kind=2→named t.b=true)∧(t.kind=1∨t.kind=2∨t.kind=3)
 stop:d.stop≤9223372036854775807
 fail:d.fail≤9223372036854775807
end Sd
end
section
open Go Go.RowKit
namespace Sd
variable {d:Sd}
theorem fq2 (d:Sd) (l:List (List UInt8)):(d.call l=(d,10)∧l.all named=false)∨∃de st fa er,d.call l=({ d with calls:=wrap64 (d.calls+1),dead:=de,stop:=st,fail:=fa },er)∧l.all named=true∧st≤d.stop∧fa≤d.fail∧(er=0∨er=15∨er=50):=by
 cases hl:l.all named with
 |false=>exact .inl ⟨by simp[call,hl],rfl⟩
 |true=>
  refine .inr ?_
  cases hd:d.dead with
  |true=>exact⟨true,d.stop,d.fail,50,by simp[call,hl,hd],rfl,x_ _,x_ _,.inr (.inr rfl)⟩
  |false=>
   by_cases hs:0 < d.stop<;>by_cases hf:0 < d.fail<;>by_cases h1:d.fail - 1=0
   all_goals first
    |exact⟨_,d.stop - 1,d.fail - 1,_,by simp only[call,hl,hd,hs,hf,h1,if_true,if_false];rfl,rfl,by omega,by omega,by simp⟩
    |exact⟨_,d.stop - 1,d.fail,_,by simp only[call,hl,hd,hs,hf,h1,if_true,if_false];rfl,rfl,by omega,by omega,by simp⟩
    |exact⟨_,d.stop,d.fail - 1,_,by simp only[call,hl,hd,hs,hf,h1,if_true,if_false];rfl,rfl,by omega,by omega,by simp⟩
    |exact⟨_,d.stop,d.fail,_,by simp only[call,hl,hd,hs,hf,h1,if_true,if_false];rfl,rfl,by omega,by omega,by simp⟩
theorem jw (d:Sd) (l:List (List UInt8)):(d.call l).1.names=d.names∧(d.call l).1.lasted=d.lasted∧(d.call l).1.files=d.files∧(d.call l).1.turns=d.turns∧(d.call l).1.quota=d.quota∧(d.call l).1.stop≤d.stop∧(d.call l).1.fail≤d.fail:=by
 rcases fq2 d l with ⟨h,_⟩|⟨de,st,fa,er,h,_,h1,h2,_⟩ <;>rw[h]
 ·exact⟨rfl,rfl,rfl,rfl,rfl,x_ _,x_ _⟩
 ·exact⟨rfl,rfl,rfl,rfl,rfl,h1,h2⟩
theorem Wf.call (h:d.Wf) (l:List (List UInt8)):(d.call l).1.Wf:=by
 obtain⟨e1,e2,e3,e4,e5,e6,e7⟩:=jw d l;obtain⟨a1,a2,a3,a4,a5,a6,a7,a8,b1,b2,b3,a9,a10⟩:=h;exact⟨by rw[e5];exact a1,by rw[e3];exact a2,by rw[e1,e3];exact a3,by rw[e2,e3];exact a4,by rw[e1];exact a5,by rw[e2];exact a6,by rw[e1];exact a7,by rw[e3,e4];exact a8,by rw[e1];exact b1,by rw[e2];exact b2,by rw[e4];exact b3,by omega,by omega⟩
theorem zy (d:Sd) (l:List (List UInt8)):(d.call l).1.load=d.load:=by
 obtain⟨e1,e2,e3,e4,e5,_⟩:=jw d l;simp[load,e3,e4]
theorem gy4 (d:Sd) (l:List (List UInt8)):(d.call l).1.used=d.used:=by
 obtain⟨e1,e2,e3,e4,e5,_⟩:=jw d l;simp[used,size,e1,e3]
theorem size_le (h:d.Wf) (i:Nat):d.size i≤250000:=by
 unfold size
 by_cases hi:i < d.files.length
 ·have:=(h.file i hi).2
  simp[C_,hi];exact this
 ·simp[C_,Nat.le_of_not_lt hi]
theorem bj5 (h:d.Wf):d.used≤16000000:=by
 have hm:=h.most;have hs:=size_le h;unfold used;have:∀m:Nm,(m.map fun p=>d.size p.2).sum≤m.length *250000:=by
  intro m
  induction m with
  |nil=>simp
  |cons p r ih=>
   have:=hs p.2;simp only[aw_,b7_,r_];omega
 have:=this d.names;omega
theorem mj1.mono {m:Nm} {n k:Nat} (h:mj1 m n) (hk:n≤k):mj1 m k:=fun p hp=>L_ (h p hp) hk
theorem mj1.put {m:Nm} {n:Nat} (h:mj1 m n) (s:List UInt8) {i:Nat} (hi:i < n):mj1 (m.put s i) n:=by
 intro p hp
 rcases Nm.vz.1 hp with rfl|⟨hp,_⟩
 ·exact hi
 ·exact h p hp
theorem mj1.del {m:Nm} {n:Nat} (h:mj1 m n) (s:List UInt8):mj1 (m.del s) n:=fun p hp=>h p (Nm.cz1.1 hp).1
theorem mj1.go {m:Nm} {n:Nat} (h:mj1 m n) (t:Tn) (ht:t.kind=1→t.file < n):mj1 (t.go m) n:=by
 unfold Tn.go;split
 ·exact h.put _ (ht ‹_›)
 ·split
  ·split
   ·rename_i i hg
    exact(h.put _ (h _ (Nm.get_mem hg))).del _
   ·exact h
  ·split
   ·exact h.del _
   ·exact h
theorem kw4 {m:Nm} (h:Nm.Apart m) (t:Tn):Nm.Apart (t.go m):=by
 unfold Tn.go;split
 ·exact Nm.fq1 h _ _
 ·split
  ·split
   ·exact Nm.oj1 (Nm.fq1 h _ _) _
   ·exact h
  ·split
   ·exact Nm.oj1 h _
   ·exact h
theorem ww3 {m:Nm} (h:Nm.Apart m) (t:Tn) (hk:t.kind≠1) (hne:t.a≠t.b):(t.go m).length≤m.length:=by
 unfold Tn.go;rw[if_neg hk];split
 ·split
  ·rename_i i hg
   have h1:((m.put t.b i).get t.a)=some i:=by rw[Nm.iz1 h hne];exact hg
   have h2:=Nm.jy2 h1;have h3:=Nm.py1 m t.b i;omega
  ·exact x_ _
 ·split
  ·exact Nm.pq1 _ _
  ·exact x_ _
theorem ay4 (q:Int) (h:q≤1099511627776):(new q).Wf:=
 ⟨by simp[new];omega,fun i h=>by simp[new]at h,fun p hp=>(by cases hp),fun p hp=>(by cases hp),bo_,bo_,by simp[new],fun t ht=>(by cases ht),fun p hp=>(by cases hp),fun p hp=>(by cases hp),fun t ht=>(by cases ht),by simp[new],by simp[new]⟩
theorem nj4 {s:List UInt8} (h:named s=true):s≠[]:=by
 intro e;subst e;simp[named]at h
theorem cw3 {l:List (List UInt8)} (h:(d.call l).2=0):l.all named=true:=by
 rcases fq2 d l with ⟨e,_⟩|⟨de,st,fa,er,_,h1,_⟩
 ·rw[e]at h;cases h
 ·exact h1
theorem Wf.create (h:d.Wf) (s:List UInt8):(d.create s).1.Wf:=by
 have hc:=h.call [s];obtain⟨e1,e2,e3,e4,e5,e6,e7⟩:=jw d [s];unfold Sd.create
 dsimp only
 split
 ·exact hc
 ·rename_i h0
  have hs:named s=true:=by simpa using cw3 (Decidable.not_not.1 h0)
  split
  ·exact hc
  ·split
   ·exact hc
   ·rename_i hn hm
    obtain⟨a1,a2,a3,a4,a5,a6,a7,a8,b1,b2,b3,a9,a10⟩:=h;have hl:=Nm.py1 d.names s d.files.length;refine⟨by rw[e5];exact a1,fun i hi=>?_,?_,?_,Nm.fq1 a5 _ _,by rw[e2];exact a6,by dsimp only;omega,?_,?_,by rw[e2];exact b2,?_,by dsimp only;omega,by dsimp only;omega⟩
    ·dsimp only at hi ⊢
     rcases T_ i d.files.length with h1|h1
     ·rw[aB_ h1];exact a2 i h1
     ·rw[bw_ h1]
      simp
    ·exact(a3.mono (by simp)).put _ (by simp)
    ·dsimp only
     rw[e2];exact a4.mono (by simp)
    ·intro t ht
     simp only[q_,c_]at ht
     rcases ht with ht|rfl
     ·have:=a8 t ht
      simp only[e_,ah_];exact⟨by omega,fun hk=>by have:=this.2 hk;omega⟩
     ·simp
    ·intro p hp
     rcases Nm.vz.1 hp with rfl|⟨hp,_⟩
     ·exact hs
     ·exact b1 p hp
    ·intro t ht
     simp only[q_,c_]at ht
     rcases ht with ht|rfl
     ·exact b3 t ht
     ·exact⟨hs,fun e=>(by cases e),.inl rfl⟩
theorem Wf.bw2 (h:d.Wf) (i:Nat) (f:List UInt8×Nat) (h1:f.2≤f.1.length) (h2:f.1.length≤250000):({ d with files:=d.files.set i f }:Sd).Wf:=by
 obtain⟨a1,a2,a3,a4,a5,a6,a7,a8,b1,b2,b3,a9,a10⟩:=h;refine⟨a1,fun j hj=>?_,by simpa using a3,by simpa using a4,a5,a6,a7,by simpa using a8,b1,b2,b3,a9,a10⟩;simp only[au_]at hj;simp only[bz_];split
 ·exact⟨h1,h2⟩
 ·exact a2 j hj
theorem sk2 (h:d.Wf) {i:Nat} (hi:i < d.files.length):(d.files.getD i ([],0)).2≤(d.files.getD i ([],0)).1.length∧(d.files.getD i ([],0)).1.length≤250000:=by
 have:=h.file i hi;simpa [C_,hi] using this
theorem Wf.append (h:d.Wf) (s b:List UInt8):(d.append s b).1.Wf:=by
 have hc:=h.call [s];obtain⟨e1,e2,e3,e4,e5,e6,e7⟩:=jw d [s];unfold Sd.append
 dsimp only
 split
 ·exact hc
 ·split
  ·exact hc
  ·rename_i i hg
   split
   ·exact hc
   ·rename_i hlen
    split
    ·exact hc
    ·have hi:=h.names _ (Nm.get_mem hg)
     obtain⟨q1,q2⟩:(d.files.getD i ([],0)).2≤(d.files.getD i ([],0)).1.length∧(d.files.getD i ([],0)).1.length≤250000:=sk2 h hi;unfold Sd.size at hlen;have h2:=hc.bw2 i ((d.files.getD i ([],0)).1++b,(d.files.getD i ([],0)).2) (by simp only[e_];omega) (by simp only[e_];omega)
     rwa [e3]at h2
theorem Wf.sync (h:d.Wf) (s:List UInt8):(d.sync s).1.Wf:=by
 have hc:=h.call [s];obtain⟨e1,e2,e3,e4,e5,e6,e7⟩:=jw d [s];unfold Sd.sync
 dsimp only
 split
 ·exact hc
 ·split
  ·exact hc
  ·rename_i i hg
   have hi:i < d.files.length:=h.names _ (Nm.get_mem hg);have:=sk2 h hi;have h2:=hc.bw2 i ((d.files.getD i ([],0)).1,d.size i) (by simp[Sd.size]) this.2
   rwa [e3]at h2
theorem rj4 {m:Nm} (h:∀p∈m,named p.1=true) (t:Tn) (ht:named t.a=true∧(t.kind=2→named t.b=true)):∀p∈t.go m,named p.1=true:=by
 intro p hp;unfold Tn.go at hp;split at hp
 ·rcases Nm.vz.1 hp with rfl|⟨hp,_⟩
  ·exact ht.1
  ·exact h p hp
 ·split at hp
  ·split at hp
   ·rcases Nm.vz.1 (Nm.cz1.1 hp).1 with rfl|⟨hp,_⟩
    ·exact ht.2 ‹_›
    ·exact h p hp
   ·exact h p hp
  ·split at hp
   ·exact h p (Nm.cz1.1 hp).1
   ·exact h p hp
theorem Wf.lk1 (h:d.Wf) (t:Tn) (hk:t.kind≠1) (hf:t.file=0) (hne:t.a≠t.b) (hg:named t.a=true∧(t.kind=2→named t.b=true)∧(t.kind=1∨t.kind=2∨t.kind=3)):({ d with names:=t.go d.names,turns:=d.turns++[t] }:Sd).Wf:=by
 obtain⟨a1,a2,a3,a4,a5,a6,a7,a8,b1,b2,b3,a9,a10⟩:=h;refine⟨a1,a2,a3.go t (fun e=>absurd e hk),a4,kw4 a5 t,a6,h_ (ww3 a5 t hk hne) a7,fun u hu=>?_,rj4 b1 t ⟨hg.1,hg.2.1⟩,b2,fun u hu=>?_,a9,a10⟩
 ·simp only[q_,c_]at hu
  rcases hu with hu|rfl
  ·exact a8 u hu
  ·exact⟨by rw[hf];exact t_ _,fun e=>absurd e hk⟩
 ·simp only[q_,c_]at hu
  rcases hu with hu|rfl
  ·exact b3 u hu
  ·exact hg
theorem Wf.rename (h:d.Wf) (a b:List UInt8):(d.rename a b).1.Wf:=by
 have hc:=h.call [a,b];obtain⟨e1,e2,e3,e4,e5,e6,e7⟩:=jw d [a,b];unfold Sd.rename
 dsimp only
 split
 ·exact hc
 ·rename_i h0
  have hs:named a=true∧named b=true:=by simpa using cw3 (Decidable.not_not.1 h0)
  split
  ·exact hc
  ·split
   ·exact hc
   ·rename_i hne
    have h2:=hc.lk1 ⟨2,0,a,b⟩ (by simp) rfl hne ⟨hs.1,fun _=>hs.2,.inr (.inl rfl)⟩
    rwa [e1,e4]at h2
theorem Wf.remove (h:d.Wf) (s:List UInt8):(d.remove s).1.Wf:=by
 have hc:=h.call [s];obtain⟨e1,e2,e3,e4,e5,e6,e7⟩:=jw d [s];unfold Sd.remove
 dsimp only
 split
 ·exact hc
 ·rename_i h0
  split
  ·exact hc
  ·have hs:named s=true:=by simpa using cw3 (Decidable.not_not.1 h0)
   have h2:=hc.lk1 ⟨3,0,s,[]⟩ (by simp) rfl (nj4 hs) ⟨hs,fun e=>(by cases e),.inr (.inr rfl)⟩
   rwa [e1,e4]at h2
theorem Wf.ay (h:d.Wf):(d.ay).1.Wf:=by
 have hc:=h.call [];obtain⟨e1,e2,e3,e4,e5,e6,e7⟩:=jw d [];unfold Sd.ay
 dsimp only
 split
 ·exact hc
 ·obtain⟨a1,a2,a3,a4,a5,a6,a7,a8,b1,b2,b3,a9,a10⟩:=hc
  rw[e1]at a3 a5;rw[e1]at b1;exact⟨a1,a2,by rw[e1];exact a3,a3,by rw[e1];exact a5,a5,a7,fun t ht=>(by cases ht),by rw[e1];exact b1,b1,fun t ht=>(by cases ht),a9,a10⟩
end Sd
end
section
open Go
namespace Mn
open Go.Lib
theorem parse_append:∀(l r:List UInt8) (acc:Nat),parseUint10 acc (l++r)=match parseUint10 acc l with
  |.ok u=>parseUint10 u r
  |x=>x
 |[],r,acc=>by simp[parseUint10]
 |c::l,r,acc=>by
  simp only[N_,parseUint10];split
  ·split
   ·rfl
   ·split
    ·rfl
    ·exact parse_append l r _
  ·rfl
theorem gx1 (d:Nat) (h:d < 10):(UInt8.ofNat (48+d)).toNat=48+d:=by
 rw[UInt8.toNat_ofNat_of_lt'];show 48+d < 256
 omega
theorem vv2 (u:Nat) (h:u < 9223372036854775808):parseUint10 0 (decDigits u)=.ok u:=by
 induction u using Nat.strongRecOn with
 |_ u ih=>
  rw[decDigits];split
  ·rename_i h1
   have e:=gx1 u h1;simp only[parseUint10,e];rw[if_pos (by omega),if_neg (by omega),if_neg (by omega)]
   congr 1
   omega
  ·rename_i h1
   have e:=gx1 (u % 10) (bm_ _ (by omega));rw[parse_append,ih (u / 10) (by omega) (by omega)];simp only[parseUint10,e];rw[if_pos (by omega),if_neg (by omega),if_neg (by omega)]
   congr 1
   omega
theorem iw2 (u:Nat):∀c∈decDigits u,48≤c.toNat∧c.toNat≤57:=by
 induction u using Nat.strongRecOn with
 |_ u ih=>
  rw[decDigits];split
  ·rename_i h1
   intro c hc;rw[c_.1 hc,gx1 u h1];omega
  ·intro c hc
   rcases q_.1 hc with hc|hc
   ·exact ih (u / 10) (by omega) c hc
   ·rw[c_.1 hc,gx1 _ (bm_ _ (by omega))]
    omega
theorem ej2 (u:Nat):∀k,u < 10 ^ (k+1)→1≤(decDigits u).length∧(decDigits u).length≤k+1:=by
 induction u using Nat.strongRecOn with
 |_ u ih=>
  intro k hk;rw[decDigits];split
  ·simp
  ·rcases k with _|k
   ·omega
   ·have:=ih (u / 10) (by omega) k (by
     have h2:10 ^ (k+1+1)=10 ^ (k+1)*10:=Nat.pow_succ 10 (k+1);omega)
    simp only[e_,ah_];omega
theorem ez3 (u:Nat) (h:u < 9223372036854775808):atoiAll (decDigits u)=.ok (u:Int):=by
 have hl:=(ej2 u 19 (by omega)).1;have ha:=iw2 u;have hp:=vv2 u h
 cases hd:decDigits u with
 |nil=>rw[hd]at hl;simp at hl
 |cons c r=>
  rw[hd]at ha hp;have hc:=ha c (by simp);unfold atoiAll parseMag;simp only;rw[if_neg (by omega:¬(c.toNat=43∨c.toNat=45)),if_neg (by simp:¬(c::r=[])),hp];simp only;rw[if_neg (by omega),if_neg (by omega),if_neg (by omega)]
def kLog:List UInt8:=[108,111,103]
def kTab:List UInt8:=[116,97,98]
def kMan:List UInt8:=[109,97,110]
def isKind (k:List UInt8):Bool:=k==kLog||(k==kTab||k==kMan)
def fits (n:Int):Bool:=decide (1≤n) &&decide (n≤1073741824)
def name (kind:List UInt8) (n:Int):List UInt8:=if fits n&&isKind kind then kind++[46] ++itoa n else []
def okOf:NumEnd Int→Option Int
 |.ok v=>some v
 |_=>none
def number (s kind:List UInt8):Option Int:=
 if hasPrefix s (kind++[46]) then match okOf (atoiAll (s.drop (kind.length+1))) with
  |some v=>if name kind v=s then some v else none
  |none=>none
 else none
theorem dv1 {kind:List UInt8} {n:Int} (h:(fits n&&isKind kind)=true):name kind n=kind++[46] ++decDigits n.toNat:=by
 have h1:1≤n:=by simp[fits]at h;omega
 rw[name,if_pos h,itoa,if_neg (by omega)]
theorem bv3 {s kind:List UInt8} {v:Int} (h:number s kind=some v):name kind v=s:=by
 unfold number at h;split at h
 ·split at h
  ·split at h
   ·injection h with h
    subst h
    assumption
   ·cases h
  ·cases h
 ·cases h
theorem cy3 {kind:List UInt8} {n:Int} (h:(fits n&&isKind kind)=true):number (name kind n) kind=some n:=by
 have h1:1≤n∧n≤1073741824:=by simp[fits]at h;omega
 have e:=dv1 h;unfold number;have hp:hasPrefix (name kind n) (kind++[46])=true:=by
  rw[e,hasPrefix,List.isPrefixOf_iff_prefix];exact List.prefix_append _ _
 have hd:(name kind n).drop (kind.length+1)=decDigits n.toNat:=by
  rw[e,ae_ (by simp)];simp
 rw[if_pos hp,hd,ez3 n.toNat (by omega)];simp only[okOf];rw[if_pos (by rw[show ((n.toNat:Nat):Int)=n by omega])]
 congr 1
 omega
theorem pk2 {kind:List UInt8} {n:Int} (h:name kind n≠[]):kind.length=3∧5≤(name kind n).length∧(name kind n).length≤14:=by
 by_cases hf:(fits n&&isKind kind)=true
 ·rw[dv1 hf]
  have h1:1≤n∧n≤1073741824:=by simp[fits]at hf;omega
  have hl:=ej2 n.toNat 9 (by omega);have hk:kind.length=3:=by
   simp only[K_,isKind,bG_,beq_iff_eq]at hf
   rcases hf.2 with h2|h2|h2<;>rw[h2] <;>rfl
  simp only[e_,ah_];omega
 ·exact absurd (by rw[name,if_neg hf]) h
theorem qw3 {kind:List UInt8} {n:Int} (h:(fits n&&isKind kind)=true):Sd.named (name kind n)=true:=by
 have hne:name kind n≠[]:=by rw[dv1 h];simp
 obtain⟨_,h2,h3⟩:=pk2 hne;unfold Sd.named;rw[decide_eq_true (by omega),decide_eq_true (by omega),dv1 h,bW_,bW_];have hk:kind.all Sd.okCh=true:=by
  simp only[K_,isKind,bG_,beq_iff_eq]at h
  rcases h.2 with h2|h2|h2<;>rw[h2] <;>decide
 have hd:(decDigits n.toNat).all Sd.okCh=true:=by
  rw[al_];intro c hc;have:=iw2 _ c hc;simp[Sd.okCh,this]
 rw[hk,hd];decide
end Mn
end
end Go.Proofs.YthjdpplgfdihoaaGreatDoor
