/- Some of the texts. No conditions. -/
import Derived.Test.YtkdbagdiplpcfaaGreatDoorBunBG

set_option linter.unusedSimpArgs false
set_option linter.unusedVariables false
set_option maxRecDepth 100000
set_option maxHeartbeats 16000000
namespace Go.Proofs.YtkdbagdiplpcfaaGreatDoor
open Go.Proofs.Tryz Go Go.RowKit Go.Lib Go.Shelf
namespace Pl
abbrev Tt:=(Int×Int)×List (List It)
def cnt (lv:Int) (l:List Tt):Nat:=(l.filter fun t=>t.1.1==lv).length
def nu (l:List Tt):Nat:=if 20 < l.length then 1 else if (if 4<=cnt 0 l then 11 else 0)+cnt 1 l=0 then 0 else (if 4<=cnt 0 l then 11 else 0)+cnt 1 l+1
theorem cnt_app (lv:Int) (a b:List Tt):cnt lv (a++b)=cnt lv a+cnt lv b:=by unfold cnt;rw[aQ_,d_]
theorem cnt_le (lv:Int) (a:List Tt):cnt lv a<=a.length:=L_ _ _
theorem cnt_all {lv k:Int} {a:List Tt} (h:∀t∈a,t.1.1=k):cnt lv a=if k=lv then a.length else 0:=by
 unfold cnt;split
 ·rename_i e
  rw[az_.2 fun t C=>by rw[h t C,e];simp]
 ·rename_i e
  rw[aq_.2 fun t C=>by rw[h t C];simpa using e];rfl
theorem cnt_filter (lv:Int) (p:Tt->Bool) (a:List Tt):cnt lv (a.filter p)<=cnt lv a:=by
 unfold cnt;exact(List.filter_sublist.filter _).length_le
theorem cnt_none {lv:Int} {p:Tt->Bool} {a:List Tt} (h:∀t∈a,t.1.1=lv->p t=false):cnt lv (a.filter p)=0:=by
 unfold cnt;rw[List.filter_filter,aq_.2 fun t E=>?_]
 ·rfl
 ·intro C
  simp only[G_,beq_iff_eq]at C;rw[h t E C.1]at C
  cases C.2
theorem cnt_less {lv:Int} {p:Tt->Bool}:∀{a:List Tt} {t:Tt},t∈a->t.1.1=lv->p t=false->cnt lv (a.filter p)+1<=cnt lv a
 |[],_,h,_,_=>by cases h
 |b::a,t,h,C,E=>by
  rcases f_.1 h with rfl|h
  ·have:=cnt_filter lv p a
   unfold cnt at *;rw[List.filter_cons_of_neg (by simp[E]),List.filter_cons_of_pos (by simp[C]),q_];omega
  ·have:=cnt_less h C E
   unfold cnt at *
   cases e:p b<;>cases f:(b.1.1==lv) <;>simp only[ar_,e,f,if_true,if_false,af_,q_] <;>omega
theorem writes_lv (lev:Int):∀(rs:List (List It)) (S:Sd) (acc:List Tt),(∀t∈acc,t.1.1=lev)->(∀t∈(St.writes lev rs S acc).2.1,t.1.1=lev)/\(St.writes lev rs S acc).2.1.length<=acc.length+rs.length
 |[],S,acc,h=>⟨h,y_ _⟩
 |r::rs,S,acc,h=>by
  unfold St.writes;split
  ·exact⟨h,by simp only;omega⟩
  ·have:=writes_lv lev rs (St.write S r).1 (acc++[((lev,St.number S),Tb.rows r)]) (fun t C=>by
    rcases k_.1 C with q|q
    ·exact h t q
    ·rw[a_.1 q])
   refine⟨this.1,?_⟩;have h2:=this.2;rw[d_,ad_]at h2;rw[q_];omega
theorem merge_lv {S S':Sd} {V V':Sv} {inn:List Int} {lev:Int} {l next:List It} (h:St.merge S V inn lev l next=(S',V',0)):
  ∃acc:List Tt,V'.tabs=V.tabs.filter (fun t=>!decide (t.1.2∈inn))++acc/\(∀t∈acc,t.1.1=lev)/\acc.length<=l.length / 200+1:=by
 obtain⟨E,H⟩:=writes_lv lev (Tb.cut 200 l.length l) S [] (fun t I=>by cases I);have O:=chunks l;refine⟨(St.writes lev (Tb.cut 200 l.length l) S []).2.1,?_,E,by rw[V_]at H;omega⟩;unfold St.merge at h;simp only at h;split at h
 ·rename_i e
  injection h with _ h;injection h with _ h;exact absurd h e
 ·obtain⟨T,C⟩:=n_ (St.turn (St.writes lev (Tb.cut 200 l.length l) S []).1 V ⟨inn,(St.writes lev (Tb.cut 200 l.length l) S []).2.1.map (·.1),0,0,0,0,0⟩ (St.mergeD (V.tabs.filter (fun t=>!decide (t.1.2∈inn))++(St.writes lev (Tb.cut 200 l.length l) S []).2.1) next))
  rw[<-C]at h;have J:T.2.2=0/\T.2.1=V':=by
   split at h
   ·rename_i e
    injection h with _ h;injection h with h _;exact⟨e,h⟩
   ·rename_i e
    rw[h]at e;exact absurd rfl e
  obtain⟨h1,h2⟩:=J;unfold St.turn at C;split at C
  ·rename_i e
   rw[C]at h1;exact absurd h1 e
  ·simp only at C
   split at C
   ·rw[<-h2,C]
    rfl
   ·rename_i e
    rw[C]at h1;exact absurd (.inl h1) e
theorem over_congr {hs C:List Hvf} (h:hs.map (·.hd)=C.map (·.hd)) (lv:Int):dj2 hs lv=dj2 C lv:=by
 have I:∀l:List Hvf,cntL lv l=((l.map (·.hd)).filter fun d=>d.level==lv).length:=fun l=>by
  unfold cntL;rw[List.filter_map,F_];rfl
 have E:∀l:List Hvf,cntL 0 l=((l.map (·.hd)).filter fun d=>d.level==0).length:=fun l=>by
  unfold cntL;rw[List.filter_map,F_];rfl
 have H:∀l:List Hvf,itmL lv l=(((l.map (·.hd)).filter fun d=>d.level==lv).map fun d=>d.amt).sum:=fun l=>by
  unfold itmL;rw[List.filter_map,aK_];rfl
 unfold dj2;rw[E,E C,H,H C,h]
theorem overs_congr {hs C:List Hvf} (h:hs.map (·.hd)=C.map (·.hd)) (k:Nat):mv1 hs k=mv1 C k:=by
 unfold mv1
 congr 1
 apply List.filter_congr;intro i _;exact over_congr h i
theorem pk_congr {hs C:List Hvf} (h:hs.map (·.hd)=C.map (·.hd)) (E:pkOf hs=none):pkOf C=none:=by
 unfold pkOf at *;rw[<-overs_congr h]
 cases H:mv1 hs 3 with
 |nil=>rfl
 |cons a r=>rw[H]at E;cases E
theorem cnt_hd {hs:List Hvf} {tabs:List Tt} (C:hs.map (·.hd)=tabs.map hdT) (lv:Int):cntL lv hs=cnt lv tabs:=by
 have e:cntL lv hs=((hs.map (·.hd)).filter fun d=>d.level==lv).length:=by
  unfold cntL;rw[List.filter_map,F_];rfl
 rw[e,C,List.filter_map,F_];rfl
theorem itm_le (lv:Int):∀tabs:List Tt,(((tabs.map hdT).filter fun d=>d.level==lv).map fun d=>d.amt).sum<=tot tabs
 |[]=>y_ _
 |t::l=>by
  have C:=itm_le lv l;have E:(hdT t).amt<=t.2.flatten.length:=by
   unfold Hd.amt hdT;simp only;omega
  unfold tot at *;rw[Z_,Z_,aI_]
  cases e:((hdT t).level==lv)
  ·simp only[ar_,e,af_,if_false]
   omega
  ·simp only[ar_,e,if_true,Z_,aI_]
   omega
theorem itm_hd {hs:List Hvf} {tabs:List Tt} (C:hs.map (·.hd)=tabs.map hdT) (lv:Int):itmL lv hs<=tot tabs:=by
 have e:itmL lv hs=(((hs.map (·.hd)).filter fun d=>d.level==lv).map fun d=>d.amt).sum:=by
  unfold itmL;rw[List.filter_map,aK_];rfl
 rw[e,C];exact itm_le lv tabs
theorem hd_at {hs:List Hvf} {tabs:List Tt} (C:hs.map (·.hd)=tabs.map hdT) {i:Nat} (hi:i < tabs.length):i < hs.length/\(hs.getD i hv0).hd=hdT tabs[i]:=by
 have E:hs.length=tabs.length:=by
  have:=congrArg List.length C;simpa using this
 refine⟨o_,?_⟩;have h1:(hs.map (·.hd))[i]?=(tabs.map hdT)[i]?:=by rw[C]
 rw[br_,br_,h_ o_,h_ hi]at h1;rw[getD_lt _ _ o_];injection h1
theorem mem_pick {hs:List Hvf} {tabs:List Tt} (C:hs.map (·.hd)=tabs.map hdT) {lv:Int} {i:Nat} (hi:i < tabs.length) (h:qw1 hs lv i=true):tabs[i].1.2∈picks hs lv hs.length:=by
 obtain⟨h1,h2⟩:=hd_at C hi;unfold picks;refine W_.2 ⟨i,P_.2 ⟨bw_.2 h1,by unfold jv2;rw[h];rfl⟩,?_⟩;rw[h2];rfl
theorem pick_lv {hs:List Hvf} {tabs:List Tt} (E:hs.map (·.hd)=tabs.map hdT) (ht:tot tabs<=2000) {inn:List Int} {lev:Int} (h:pkOf hs=some (inn,lev)):
  (lev=1/\4<=cnt 0 tabs/\∀t∈tabs,t.1.1=0->t.1.2∈inn)\/(lev=2/\cnt 0 tabs < 4/\∃t∈tabs,t.1.1=1/\t.1.2∈inn):=by
 unfold pkOf at h
 cases H:mv1 hs 3 with
 |nil=>rw[H]at h;cases h
 |cons lv r=>
  rw[H]at h;injection h with h;injection h with h1 h2;obtain⟨l0,l2,C⟩:=gj3 H;have Z:=cnt_hd E;have a0:hs.length=tabs.length:=by
   have:=congrArg List.length E;simpa using this
  rcases (by omega:lv=0\/lv=1\/lv=2) with rfl|rfl|rfl
  ·refine .inl ⟨o_,?_,fun t O J=>?_⟩
   ·unfold dj2 at C
    rw[if_pos rfl,Z 0]at C;exact of_decide_eq_true C
   ·obtain⟨i,hi,rfl⟩:=aX_ O
    rw[<-h1];refine mem_pick E hi ?_;obtain⟨_,e⟩:=hd_at E hi;unfold qw1;rw[e];show (tabs[i].1.1==0&&((0:Int)==0||i==uy hs 0))=true
    rw[J];rfl
  ·refine .inr ⟨o_,?_,?_⟩
   ·rw[<-Z 0]
    have J:dj2 hs 0=false:=by
     cases e:dj2 hs 0 with
     |false=>rfl
     |true=>
      unfold mv1 at H;rw[show List.range 3=[0,1,2] from rfl,List.filter_cons_of_pos (by simpa using e),Z_]at H;injection H with H _;omega
    unfold dj2 at J;rw[if_pos rfl]at J;have:=of_decide_eq_false J;omega
   ·have Q:=gw5 l0 l2 C
    have I:uy hs 1 < tabs.length:=o_
    have U:((hs[uy hs 1]).hd.level==1)=true:=bf_ (p:=fun h:Hvf=>h.hd.level==1) (xs:=hs) (w:=Q);obtain⟨_,e⟩:=hd_at E I;refine⟨tabs[uy hs 1],u_ I,?_,?_⟩
    ·rw[getD_lt _ _ Q]at e
     rw[e]at U;simpa [hdT] using U
    ·rw[<-h1]
     refine mem_pick E I ?_;unfold qw1;rw[getD_lt _ _ Q,U];simp
  ·exfalso
   unfold dj2 at C;rw[if_neg (by decide),if_neg (by decide)]at C;have h3:=of_decide_eq_true C;have h4:=itm_hd E 2;omega
theorem nu_le (l:List Tt):nu l<=(if 4<=cnt 0 l then 11 else 0)+cnt 1 l+1:=by
 unfold nu;generalize (if 4<=cnt 0 l then 11 else 0)+cnt 1 l=n;split
 ·omega
 split
 ·omega
 ·exact y_ _
theorem nu_lt (l:List Tt) (h:l.length<=20):nu l<=(if 4<=cnt 0 l then 11 else 0)+cnt 1 l+1/\(cnt 0 l < 4->cnt 1 l=0->nu l=0):=by
 refine⟨nu_le l,fun C h1=>?_⟩;unfold nu;rw[if_neg o_,if_pos (by rw[if_neg o_,h1])]
theorem nu_ge {l:List Tt} (h:l.length<=20) (h1:1<=(if 4<=cnt 0 l then 11 else 0)+cnt 1 l):nu l=(if 4<=cnt 0 l then 11 else 0)+cnt 1 l+1:=by
 unfold nu;rw[if_neg o_,if_neg o_]
theorem nu_step {S S':Sd} {V V':Sv} {hs:List Hvf} {b:Bool} (hm:hs.map (·.hd)=V.tabs.map hdT) (J:tot V.tabs<=1800) (hg:Gs_ V) (ho:V.only=false) (h:stepW S V (pkOf hs)=(S',V',b,0)):
  (b=false/\S'=S/\V'=V/\V.tabs.length<=20/\pkOf hs=none)\/(b=true/\nu V'.tabs+1<=nu V.tabs):=by
 have H:∀inn:List Int,(St.uq2 V inn).length<=1800:=fun inn=>by
  refine j_ (ty2 hg inn _).2 (j_ ?_ J);have:=fw2 (fun t=>decide (t.1.2∈inn)) V.tabs;omega
 cases C:St.fv2 V (pkOf hs) with
 |none=>
  rw[bj4 ho C]at h;injection h with h1 h;injection h with h2 h;injection h with h3 h4;unfold St.fv2 at C;split at C
  ·cases C
  ·rename_i e
   exact .inl ⟨h3.symm,h1.symm,h2.symm,o_,C⟩
 |some q=>
  obtain⟨inn,lev⟩:=q;rw[bv4 ho C]at h;injection h with h1 h;injection h with h2 h;injection h with h3 h4;have O:St.merge S V inn lev (St.uq2 V inn) V.st=(S',V',0):=by
   rw[<-h1,<-h2,<-h4]
  obtain⟨acc,e,I,hl⟩:=merge_lv O;have a5:acc.length<=10:=by have:=H inn;omega
  refine .inr ⟨by rw[<-h3,h4];rfl,?_⟩;unfold St.fv2 at C
  by_cases E:20 < V.tabs.length
  ·rw[if_pos E]at C
   injection C with C;injection C with k1 k2;have hf:V.tabs.filter (fun t=>!decide (t.1.2∈inn))=[]:=by
    refine aq_.2 fun t J=>?_;rw[<-k1];have:t.1.2∈V.tabs.map (fun t=>t.1.2):=W_.2 ⟨t,J,rfl⟩;simp[this]
   rw[hf,C_]at e;have c0:=cnt_all (lv:=0) I;have c1:=cnt_all (lv:=1) I;rw[if_neg o_]at c0 c1;have:=(nu_lt acc o_).2 o_ c1;rw[e,this];unfold nu;rw[if_pos E];exact y_ _
  ·rw[if_neg E]at C
   have n0:cnt 0 V'.tabs=cnt 0 (V.tabs.filter fun t=>!decide (t.1.2∈inn))+cnt 0 acc:=by rw[e,cnt_app]
   have n1:cnt 1 V'.tabs=cnt 1 (V.tabs.filter fun t=>!decide (t.1.2∈inn))+cnt 1 acc:=by rw[e,cnt_app]
   have c0:=cnt_all (lv:=0) I;have c1:=cnt_le 1 acc;have d1:=cnt_filter 1 (fun t=>!decide (t.1.2∈inn)) V.tabs;have d0:=cnt_filter 0 (fun t=>!decide (t.1.2∈inn)) V.tabs;have hn:=nu_le V'.tabs
   rcases pick_lv hm o_ C with ⟨rfl,Q,p1⟩|⟨rfl,Q,t,tm,t1,t2⟩
   ·have hz:=cnt_none (lv:=0) (p:=fun t=>!decide (t.1.2∈inn)) (a:=V.tabs) fun t U h0=>by simp[p1 t U h0]
    rw[if_neg (by decide)]at c0;have Z:=nu_ge (l:=V.tabs) o_ (by rw[if_pos Q];omega);rw[if_pos Q]at Z;rw[if_neg o_]at hn;omega
   ·have hz:=cnt_less (p:=fun t=>!decide (t.1.2∈inn)) tm t1 (by simp[t2])
    rw[if_neg (by decide)]at c0;have c1:=cnt_all (lv:=1) I;rw[if_neg (by decide)]at c1;rw[if_neg o_]at hn;have Z:=nu_ge (l:=V.tabs) o_ (by rw[if_neg o_];omega);rw[if_neg o_]at Z;omega
end Pl
namespace Pl
structure PlR (S:Sd) (V:Sv) (L:List It) (mt:Mt) (j:Nat):Prop where
 p:Plv S V (1+19 *(30+(j:Int))) (122820+2012 *j) 60000
 g:Gs_ V
 st:V.st=L
 mt:St.cv1 V=mt
 stt:Stt L
 len:L.length<=1500
 fit:∀x∈L,x.fit
 tot:tot V.tabs+V.mem.length<=1800
 count:V.M.count<=61+2 *j
 load:S.load<=31000+1000 *j
 nu:nu V.tabs+j<=32
variable {S S':Sd} {V V':Sv} {L:List It} {mt:Mt} {i j:Nat}
theorem cnt_two:∀l:List Tt,cnt 0 l+cnt 1 l<=l.length
 |[]=>y_ _
 |t::l=>by
  have H:=cnt_two l;unfold cnt at *;rw[q_]
  by_cases C:t.1.1=0
  ·rw[List.filter_cons_of_pos (by simp[C]),List.filter_cons_of_neg (by simp[C]),q_]
   omega
  ·rw[List.filter_cons_of_neg (by simp[C])]
   by_cases E:t.1.1=1
   ·rw[List.filter_cons_of_pos (by simp[E]),q_]
    omega
   ·rw[List.filter_cons_of_neg (by simp[E])]
    omega
theorem nu_start (l:List Tt):nu l<=32:=by
 have h1:=nu_le l;have h2:=cnt_two l
 by_cases h:20 < l.length
 ·unfold nu
  rw[if_pos h];omega
 ·split at h1<;>omega
theorem PlR.of (h:PlI S V L mt i) (hi:i<=30):PlR S V L mt 0:=
 ⟨h.p.mono o_ o_ o_,h.g,h.st,h.mt,h.stt,h.len,h.fit,by have:=h.tot;omega,by have:=h.count;omega,by have:=h.load;omega,nu_start _⟩
theorem PlR.cq3 (h:PlR S V L mt j):V.tabs.length<=40:=by
 have:=(qq1 h.p).2.1;rw[F_]at this;exact this
theorem PlR.le (h:PlR S V L mt j):j<=32:=by have:=h.nu;omega
theorem PlR.asks (h:PlR S V L mt j):Asks S V:=by
 have H:=mk3 h.g;have C:=h.len;rw[<-h.st]at C;have Q:=h.tot;have E:=h.cq3;have I:=h.p.own.lg1;have U:=h.count;have J:=h.load;have hj:=h.le;exact⟨(jw3 h.g).good o_,fun x O=>(h.g.mem.o x O).2,o_,C,by rw[h.p.files,F_];exact E,⟨I.1,o_⟩,o_,by rw[h.p.name];decide+kernel,o_,E,h.p.only⟩
theorem PlR.mrg (h:PlR S V L mt j) (v:Nat):tk4 V v:=by
 have C:=h.tot;have I:=h.count;have hj:=h.le;refine mgok h.p (T:=1800) C o_ o_ (by rw[h.st];exact h.len) o_ (fun t q=>?_) (fun x E=>((wy5 h.g v).o x E).2) (fun r H=>(vz2 (wy5 h.g v) r H).2);have h1:=(h.g.tabs t q).2.short;have h2:t.2.flatten.length<=Pl.tot V.tabs:=by
  unfold Pl.tot;have:=ux1 (fun t:(Int×Int)×List (List It)=>t.2.flatten.length) q;omega
 omega
theorem PlR.merge (h:PlR S V L mt j) {inn:List Int} {lev:Int} {l:List It} (Q:inn.Nodup) (E:∀n∈inn,∃t∈V.tabs,t.1.2=n) (H:0<=lev/\lev<=3) (C:V.tabs.length<=20\/∀t∈V.tabs,t.1.2∈inn) (U:l.length<=Pl.tot (V.tabs.filter fun t=>decide (t.1.2∈inn))) (Z:Gr l):
  ∃S' V',St.merge S V inn lev l V.st=(S',V',0)/\(Pl.nu V'.tabs+(j+1)<=32->PlR S' V' L mt (j+1)):=by
 have ht:=h.tot;have a1:=h.cq3;have hj:=h.le;have J:inn.length<=40:=by
  have:=xk2 (K:=V.tabs.map fun t=>t.1.2) Q fun x hx=>by
   obtain⟨t,a,b⟩:=E x hx;exact W_.2 ⟨t,a,b⟩
  rw[F_]at this;omega
 have hs:=fw2 (fun t=>decide (t.1.2∈inn)) V.tabs;have hk:=chunks l;have I:=rj3 S V inn lev l V.st;obtain⟨S',V',e,p,q1,q2,q3,q4,q5,q6⟩:=step_done h.p (T:=1800) ht o_ o_ o_ o_ Q E H J C U;rw[e]at I;simp only at I;refine⟨S',V',e,fun O=>⟨p.mono o_ o_ o_,sy3 h.g Z q5 e,q1.trans h.st,q3.trans h.mt,h.stt,h.len,h.fit,o_,by rw[q4];have:=h.count;omega,?_,O⟩⟩;have h5:l.length / 200<=16:=o_
 have:=h.load;omega
theorem PlR.step (h:PlR S V L mt j) {hs:List Hvf} (Q:hs.map (·.hd)=V.tabs.map hdT) (H:(V.tabs.map fun t=>t.1.2).Nodup):
  ∃S' V' b,stepW S V (pkOf hs)=(S',V',b,0)/\((b=false/\S'=S/\V'=V/\V.tabs.length<=20/\pkOf hs=none)\/(b=true/\PlR S' V' L mt (j+1))):=by
 obtain⟨U,a2,a3,a4⟩:=qq1 h.p;have E:=h.tot;have Z:hs.map (fun h=>h.hd.num)=V.tabs.map fun t=>t.1.2:=by
  have:=congrArg (List.map fun d:Hd=>d.num) Q;rw[aK_,aK_]at this;exact this
 have I:=aq6 Z H;have key:∃S' V' b,stepW S V (pkOf hs)=(S',V',b,0)/\(Pl.nu V'.tabs+(j+1)<=32->PlR S' V' L mt (j+1)\/b=false):=by
  unfold stepW;rw[if_neg (by rw[h.p.only];simp)]
  by_cases C:20 < V.tabs.length
  ·rw[if_pos C]
   simp only;obtain⟨J,O⟩:=ty2 h.g (V.tabs.map fun t=>t.1.2) fun x=>decide (x∈ofs (V.tabs.map fun t=>t.2.flatten).flatten);obtain⟨S',V',e,p⟩:=h.merge (lev:=3) U a3 ⟨by decide,by decide⟩ (.inr fun t E=>W_.2 ⟨t,E,rfl⟩) O J;rw[e];exact⟨S',V',true,rfl,fun q=>.inl (p q)⟩
  ·rw[if_neg C]
   cases hq:pkOf hs with
   |none=>exact⟨S,V,false,rfl,fun _=>.inr rfl⟩
   |some q=>
    obtain⟨inn,lev⟩:=q;obtain⟨b1,b2,b3⟩:=I inn lev hq;simp only;obtain⟨J,O⟩:=ty2 h.g inn fun x=>decide (x∈ofs (V.tabs.map fun t=>t.2.flatten).flatten);obtain⟨S',V',e,p⟩:=h.merge (lev:=lev) b1 (fun n hn=>by
     obtain⟨t,E,e⟩:=W_.1 (b2 n hn);exact⟨t,E,e⟩) b3 (.inl o_) O J
    rw[e];exact⟨S',V',true,rfl,fun q=>.inl (p q)⟩
 obtain⟨S',V',b,e,p⟩:=key;refine⟨S',V',b,e,?_⟩
 rcases nu_step Q o_ h.g h.p.only e with q|⟨rfl,q⟩
 ·exact .inl q
 ·have:=h.nu
  rcases p o_ with r|r
  ·exact .inr ⟨rfl,r⟩
  ·cases r
theorem step_again {hs C:List Hvf} (E:hs.map (·.hd)=V.tabs.map hdT) (H:C.map (·.hd)=V.tabs.map hdT) (I:V.only=false) (J:V.tabs.length<=20) (h:pkOf hs=none):stepW S V (pkOf C)=(S,V,false,0):=by
 refine bj4 I ?_;unfold St.fv2;rw[if_neg o_];exact pk_congr (E.trans H.symm) h
end Pl
end Go.Proofs.YtkdbagdiplpcfaaGreatDoor
