/- Texts PlainItem, PlainRows, PlainSkip, HashA, Openers, PlainRefAdd, PlainCrc, PlainTurns, PlainBursts in one. No conditions. -/
import Derived.Test.YthjdpplgfdihoaaGreatDoorBunAA

set_option linter.unusedSimpArgs false
set_option linter.unusedVariables false
set_option maxRecDepth 100000
set_option maxHeartbeats 16000000
namespace Go.Proofs.YthjdpplgfdihoaaGreatDoor
section
@[ext] structure It where
 s:Int
 k:Int
 t:Nat
 v:Nat
 x:Int
instance :DecidableEq It:=fun a b=>decidable_of_iff (a.s=b.s∧a.k=b.k∧a.t=b.t∧a.v=b.v∧a.x=b.x) ⟨fun⟨h1,h2,h3,h4,h5⟩=>It.ext h1 h2 h3 h4 h5,fun h=>by subst h;simp⟩
namespace It
def ok (a:It):Bool:=decide (0≤a.s) &&decide (a.s≤255) &&decide (1≤a.v) &&decide (a.v≤281474976710656) &&(a.k==1&&a.t==0&&a.x==0||a.k==2&&decide (a.t≤1099511627776))
def less (a b:It):Bool:=if a.s≠b.s then decide (a.s < b.s) else if a.k≠b.k then decide (a.k < b.k) else decide (a.t < b.t)
def same (a b:It):Bool:= !less a b&&!less b a
def wins (a b:It):Bool:=decide (b.v < a.v)||a.v==b.v&&decide (b.x < a.x)
def hides (t a:It):Bool:=t.k==1&&a.k==2&&t.s==a.s&&decide (a.v≤t.v)
variable {a b c d t:It}
theorem vw:less a b=true↔a.s < b.s∨a.s=b.s∧(a.k < b.k∨a.k=b.k∧a.t < b.t):=by
 unfold less;split<;>(try split) <;>simp<;>omega
theorem kj1:less a b=false↔¬(a.s < b.s∨a.s=b.s∧(a.k < b.k∨a.k=b.k∧a.t < b.t)):=by
 rw[←vw];simp
theorem same_iff:same a b=true↔a.s=b.s∧a.k=b.k∧a.t=b.t:=by
 unfold same;simp only[K_,bp_,kj1];omega
theorem vj1:wins a b=true↔b.v < a.v∨a.v=b.v∧b.x < a.x:=by simp[wins]
theorem yz:wins a b=false↔¬(b.v < a.v∨a.v=b.v∧b.x < a.x):=by rw[←vj1];simp
theorem fx1:hides t a=true↔t.k=1∧a.k=2∧t.s=a.s∧a.v≤t.v:=by simp[hides,and_assoc]
theorem qz1:hides t a=false↔¬(t.k=1∧a.k=2∧t.s=a.s∧a.v≤t.v):=by rw[←fx1];simp
theorem pv1 (a:It):less a a=false:=by rw[kj1];omega
theorem yy1 (a:It):same a a=true:=by rw[same_iff];simp
theorem rk1 (h:less a b=true) (k:less b c=true):less a c=true:=by
 rw[vw]at *;omega
theorem eq_of (h:same a b=true) (k:wins a b=false) (k2:wins b a=false):a=b:=by
 rw[same_iff]at h;rw[yz]at k k2;exact It.ext (by omega) (by omega) (by omega) (by omega) (by omega)
end It
open It
def best (L:List It) (y:It):Prop:=y∈L∧y.ok=true∧(∀z∈L,z.ok=true→same z y=true→wins z y=false)∧∀z∈L,z.ok=true→hides z y=false
def Eqv (L L':List It):Prop:=∀y,best L y↔best L' y
variable {L L' A B:List It} {x y z:It}
theorem wq4 (L:List It) (z:It) (hz:z∈L) (hk:z.ok=true):∃y∈L,y.ok=true∧same y z=true∧wins z y=false∧∀u∈L,u.ok=true→same u y=true→wins u y=false:=by
 induction L generalizing z with
 |nil=>cases hz
 |cons a L ih=>
  by_cases hex:∃u∈L,u.ok=true∧same u z=true
  ·obtain⟨u,hu,huk,hus⟩:=hex
   obtain⟨y,hy,hyk,hys,_,hyw⟩:=ih u hu huk;have hyz:same y z=true:=by rw[same_iff]at *;omega
   by_cases ha:a.ok=true∧same a y=true∧wins a y=true
   ·obtain⟨ha,has,haw⟩:=ha
    refine⟨a,m_,ha,by rw[same_iff]at *;omega,?_,fun u hu huk hus=>?_⟩
    ·rcases g_.1 hz with rfl|hz
     ·rw[yz];omega
     ·have:=hyw z hz hk (by rw[same_iff]at *;omega)
      rw[vj1]at haw;rw[yz]at *;omega
    ·rcases g_.1 hu with rfl|hu
     ·rw[yz];omega
     ·have:=hyw u hu huk (by rw[same_iff]at *;omega)
      rw[vj1]at haw;rw[yz]at *;omega
   ·have hay:a.ok=true→same a y=true→wins a y=false:=fun h1 h2=>by
     cases h:wins a y with
     |false=>rfl
     |true=>exact absurd ⟨h1,h2,h⟩ ha
    refine⟨y,f_ _ hy,hyk,hyz,?_,fun u hu huk hus=>?_⟩
    ·rcases g_.1 hz with rfl|hz
     ·exact hay hk (by rw[same_iff]at *;omega)
     ·exact hyw z hz hk (by rw[same_iff]at *;omega)
    ·rcases g_.1 hu with rfl|hu
     ·exact hay huk hus
     ·exact hyw u hu huk hus
  ·have hz1:z=a:=by
    rcases g_.1 hz with h|h
    ·exact h
    ·exact absurd ⟨z,h,hk,yy1 z⟩ hex
   subst hz1;refine⟨z,m_,hk,yy1 z,by rw[yz];omega,fun u hu huk hus=>?_⟩
   rcases g_.1 hu with rfl|hu
   ·rw[yz];omega
   ·exact absurd ⟨u,hu,huk,hus⟩ hex
theorem tq2 (hz:z∈L) (hk:z.ok=true):(∃y,best L y∧same y z=true∧wins z y=false)∨∃t,best L t∧hides t z=true:=by
 obtain⟨y,hy,hyk,hys,hyz,hyw⟩:=wq4 L z hz hk
 by_cases hh:∃t∈L,t.ok=true∧hides t y=true
 ·obtain⟨t,ht,htk,hth⟩:=hh
  obtain⟨u,hu,huk,hus,hut,huw⟩:=wq4 L t ht htk;rw[fx1]at hth;rw[same_iff]at hus hys;rw[yz]at hut hyz;refine .inr ⟨u,⟨hu,huk,huw,fun q _ _=>?_⟩,?_⟩
  ·rw[qz1];omega
  ·rw[fx1];omega
 ·refine .inl ⟨y,⟨hy,hyk,hyw,fun q hq hqk=>?_⟩,hys,hyz⟩
  cases h:hides q y with
  |false=>rfl
  |true=>exact absurd ⟨q,hq,hqk,h⟩ hh
theorem Eqv.between (h1:∀y,best L y→y∈L') (h2:∀y∈L',y.ok=true→y∈L):Eqv L' L:=by
 intro y;constructor
 ·rintro⟨hy,hk,hw,hh⟩
  refine⟨h2 y hy hk,hk,fun z hz hzk hs=>?_,fun z hz hzk=>?_⟩
  ·rcases tq2 hz hzk with ⟨u,hu,hus,huz⟩|⟨t,ht,hth⟩
   ·have:=hw u (h1 u hu) hu.2.1 (by rw[same_iff]at *;omega)
    rw[yz]at *;omega
   ·have h3:=hh t (h1 t ht) ht.2.1
    rw[same_iff]at hs;rw[qz1]at h3;rw[fx1]at hth;rw[yz];omega
  ·rcases tq2 hz hzk with ⟨u,hu,hus,huz⟩|⟨t,ht,hth⟩
   ·have h3:=hh u (h1 u hu) hu.2.1
    rw[same_iff]at hus;rw[yz]at huz;rw[qz1]at *;omega
   ·rw[fx1]at hth
    rw[qz1];omega
 ·rintro⟨hy,hk,hw,hh⟩
  exact⟨h1 y ⟨hy,hk,hw,hh⟩,hk,fun z hz hzk=>hw z (h2 z hz hzk) hzk,fun z hz hzk=>hh z (h2 z hz hzk) hzk⟩
theorem Eqv.iq5 (h:∀y,y.ok=true→(y∈L↔y∈L')):Eqv L L':=fun y=>
 ⟨fun⟨a,k,b,c⟩=>⟨(h y k).1 a,k,fun z hz hk=>b z ((h z hk).2 hz) hk,fun z hz hk=>c z ((h z hk).2 hz) hk⟩,
  fun⟨a,k,b,c⟩=>⟨(h y k).2 a,k,fun z hz hk=>b z ((h z hk).1 hz) hk,fun z hz hk=>c z ((h z hk).1 hz) hk⟩⟩
theorem best.of_sub (h:best L y) (hy:y∈L') (hs:∀z∈L',z∈L):best L' y:=⟨hy,h.2.1,fun z hz=>h.2.2.1 z (hs z hz),fun z hz=>h.2.2.2 z (hs z hz)⟩
theorem oy4 {p:It→Prop} (hp:∀y,p y↔best L y) (y:It) (l:List It) (hl:∀y,y∈l↔p y):best (A++l) y↔best (A++L) y:=by
 refine Eqv.between (L:=A++L) (fun y hy=>?_) (fun y hy _=>?_) y
 ·rcases q_.1 hy.1 with h|h
  ·exact s_ _ h
  ·exact k_ _ ((hl y).2 ((hp y).2 (hy.of_sub h (fun z hz=>k_ _ hz))))
 ·rcases q_.1 hy with h|h
  ·exact s_ _ h
  ·exact k_ _ ((hp y).1 ((hl y).1 h)).1
def uq (l:List It):Prop:=l.Pairwise (fun a b=>less a b=true)
instance (l:List It):Decidable (uq l):=by unfold uq;infer_instance
structure Stt (l:List It):Prop where
 rises:uq l
 ok:∀y∈l,y.ok=true
 bare:∀a∈l,∀b∈l,hides a b=false
theorem kq1 {l:List It} (h:uq l) {a b:It} (ha:a∈l) (hb:b∈l) (hs:same a b=true):a=b:=by
 induction l with
 |nil=>cases ha
 |cons c l ih=>
  obtain⟨h1,h2⟩:=Z_.1 h;rw[same_iff]at hs
  rcases g_.1 ha with e1|e1<;>rcases g_.1 hb with e2|e2
  ·rw[e1,e2]
  ·have:=h1 b e2;rw[←e1,vw]at this;omega
  ·have:=h1 a e1;rw[←e2,vw]at this;omega
  ·exact ih h2 e1 e2
theorem Stt.best {l:List It} (h:Stt l) (y:It):y∈l↔best l y:=
 ⟨fun hy=>⟨hy,h.ok y hy,fun z hz _ hs=>by rw[kq1 h.rises hz hy hs,yz];omega,fun z hz _=>h.bare z hz y hy⟩,fun hy=>hy.1⟩
theorem kv3:∀{l l':List It},uq l→uq l'→(∀y,y∈l↔y∈l')→l=l'
 |[],[],_,_,_=>rfl
 |[],b::r,_,_,h=>absurd ((h b).2 m_) (by simp)
 |a::r,[],_,_,h=>absurd ((h a).1 m_) (by simp)
 |a::r,b::q,h1,h2,h=>by
  obtain⟨a1,a2⟩:=Z_.1 h1;obtain⟨b1,b2⟩:=Z_.1 h2;have hab:a=b:=by
   rcases g_.1 ((h a).1 m_) with e|e
   ·exact e
   ·rcases g_.1 ((h b).2 m_) with f|f
    ·exact f.symm
    ·have h3:=b1 a e
     have h4:=a1 b f;rw[vw]at h3 h4;omega
  subst hab
  congr 1
  refine kv3 a2 b2 fun y=>⟨fun hy=>?_,fun hy=>?_⟩
  ·rcases g_.1 ((h y).1 (f_ _ hy)) with e|e
   ·subst e
    have:=a1 y hy;rw[pv1]at this
    cases this
   ·exact e
  ·rcases g_.1 ((h y).2 (f_ _ hy)) with e|e
   ·subst e
    have:=b1 y hy;rw[pv1]at this
    cases this
   ·exact e
theorem Stt.nil:Stt []:=⟨bo_,(by simp),(by simp)⟩
def pos (l:List It) (x:It):Nat:=(l.takeWhile fun a=>less a x).length
def put (l:List It) (x:It):List It:=l.filter (fun y=>less y x)++x::l.filter (fun y=>less x y)
def hidden (l:List It) (x:It):Bool:=l.any fun t=>hides t x
def dj1 (l:List It) (x:It):Bool:=l.any fun y=>same y x&&!wins x y
def add (l:List It) (x:It):List It:=if (!x.ok||hidden l x||dj1 l x)=true then l else (put l x).filter fun y=>!hides x y
def joins (a b:List It):List It:=b.foldl add a
theorem sj2 (l:List It) (x:It):pos l x≤l.length:=by
 unfold pos;exact(List.takeWhile_prefix _).length_le
theorem az2 {l:List It} (h:uq l) (x:It):l.take (pos l x)=l.filter (fun y=>less y x)∧l.drop (pos l x)=l.filter (fun y=>!less y x):=by
 induction l with
 |nil=>simp[pos]
 |cons a r ih=>
  obtain⟨a1,a2⟩:=Z_.1 h;have ih:=ih a2;unfold pos at ih ⊢
  cases hl:less a x with
  |true=>simp only[List.takeWhile_cons,hl,if_true,r_,bX_,bD_,bf_,ih,bU_,ao_,if_false,and_self]
  |false=>
   have h1:∀y∈r,less y x=false:=fun y hy=>by
    have:=a1 y hy;rw[vw]at this;rw[kj1]at *;omega
   have h2:r.filter (fun y=>less y x)=[]:=bL_.2 (fun y hy=>by simp[h1 y hy]);have h3:r.filter (fun y=>!less y x)=r:=aS_.2 (fun y hy=>by simp[h1 y hy]);simp[List.takeWhile_cons,hl,h2,h3]
theorem vz {l:List It}:y∈put l x↔y=x∨y∈l∧same y x=false:=by
 unfold put;simp only[q_,ab_,g_];have:same y x=false↔less y x=true∨less x y=true:=by
  unfold same
  cases less y x<;>cases less x y<;>simp
 rw[this];constructor
 ·rintro(h|h|h)
  ·exact .inr ⟨h.1,.inl h.2⟩
  ·exact .inl h
  ·exact .inr ⟨h.1,.inr h.2⟩
 ·rintro(h|⟨h,k|k⟩)
  ·exact .inr (.inl h)
  ·exact .inl ⟨h,k⟩
  ·exact .inr (.inr ⟨h,k⟩)
theorem qv1 {l:List It} (h:uq l):uq (put l x):=by
 unfold put uq;refine ba_.2 ⟨h.filter _,Z_.2 ⟨fun y hy=>(ab_.1 hy).2,h.filter _⟩,fun a ha b hb=>?_⟩;have h1:=(ab_.1 ha).2
 rcases g_.1 hb with rfl|hb
 ·exact h1
 ·exact rk1 h1 (ab_.1 hb).2
theorem oq3 {l:List It} (h:uq l) (hn:∀y,l[pos l x]?=some y→same y x=false):put l x=l.take (pos l x)++x::l.drop (pos l x):=by
 obtain⟨h1,h2⟩:=az2 h x;unfold put;rw[h1]
 congr 2
 have hd:∀y∈l.drop (pos l x),less x y=true:=fun y hy=>by
  have hs:=h.sublist (List.drop_sublist (pos l x) l);have hy2:less y x=false:=by rw[h2]at hy;simpa using (ab_.1 hy).2
  cases hdr:l.drop (pos l x) with
  |nil=>rw[hdr]at hy;cases hy
  |cons c r=>
   have hc:l[pos l x]?=some c:=by
    have:=an_ (xs:=l) (i:=pos l x) (j:=0);rw[hdr]at this;simpa using this.symm
   have hcs:=hn c hc;have hcl:less c x=false:=by
    have:c∈l.drop (pos l x):=by rw[hdr];simp
    rw[h2]at this;simpa using (ab_.1 this).2
   have hxc:less x c=true:=by
    unfold same at hcs;rw[hcl]at hcs;simpa using hcs
   rw[hdr]at hy hs;obtain⟨p1,_⟩:=Z_.1 hs
   rcases g_.1 hy with rfl|hy
   ·exact hxc
   ·exact rk1 hxc (p1 y hy)
 have e:l.filter (fun y=>less x y)=(l.drop (pos l x)).filter (fun y=>less x y):=by
  conv=>lhs;rw[←aa_ (pos l x) l,bZ_]
  rw[bL_.2,y_];intro y hy;rw[h1]at hy;have:=(ab_.1 hy).2;rw[vw]at this;simp only[Bool.not_eq_true,kj1];omega
 rw[e];exact aS_.2 hd
theorem cw5 {l:List It} (h:uq l) {c:It} (hc:l[pos l x]?=some c) (hs:same c x=true):put l x=l.set (pos l x) x:=by
 have hp:pos l x < l.length:=(G_.1 hc).1;have hcg:=(G_.1 hc).2;refine kv3 (qv1 h) ?_ (fun y=>?_)
 ·unfold uq
  rw[aJ_,if_pos hp];have h0:uq (l.take (pos l x)++c::l.drop (pos l x+1)):=by
   rw[←hcg,List.getElem_cons_drop,aa_];exact h
  obtain⟨b1,b2,b3⟩:=ba_.1 h0;obtain⟨b4,b5⟩:=Z_.1 b2;rw[same_iff]at hs;refine ba_.2 ⟨b1,Z_.2 ⟨fun y hy=>?_,b5⟩,fun a ha b hb=>?_⟩
  ·have:=b4 y hy
   rw[vw]at *;omega
  ·rcases g_.1 hb with rfl|hb
   ·have:=b3 a ha c (by simp)
    rw[vw]at *;omega
   ·exact b3 a ha b (by simp[hb])
 ·rw[vz]
  constructor
  ·rintro(rfl|⟨hy,hn⟩)
   ·exact List.mem_set hp _
   ·obtain⟨i,hi,rfl⟩:=aR_ hy
    have hne:pos l x≠i:=fun e=>by subst e;rw[hcg,hs]at hn;cases hn
    exact bt_.2 ⟨i,by simpa using hi,by rw[bz_,if_neg hne]⟩
  ·intro hy
   obtain⟨i,hi,rfl⟩:=aR_ hy;simp only[au_]at hi;rw[bz_];split
   ·exact .inl rfl
   ·rename_i hne
    refine .inr ⟨v_ _,?_⟩
    cases hq:same l[i] x with
    |false=>rfl
    |true=>
     exfalso;have:l[i]=c:=kq1 h (v_ _) (by rw[←hcg];exact v_ _) (by rw[same_iff]at *;omega);rw[←hcg]at this;have h3:=ai_.1 h
     rcases b1_ hne with h4|h4
     ·have:=h3 _ _ hp hi h4
      simp_all [pv1]
     ·have:=h3 _ _ hi hp h4
      simp_all [pv1]
theorem xz4 {l:List It} (h:Stt l):Stt (add l x)∧∀y,y∈add l x↔best (x::l) y:=by
 unfold add;split
 ·rename_i hc
  refine⟨h,fun y=>(h.best y).trans (Eqv.between (L:=x::l) (L':=l) (fun y hy=>?_) (fun y hy _=>f_ _ hy) y)⟩
  rcases g_.1 hy.1 with rfl|h1
  ·obtain⟨_,hk,hw,hh⟩:=hy
   simp only[bG_,bp_,hidden,dj1,aO_,K_]at hc
   rcases hc with (hc|⟨t,ht,hc⟩)|⟨z,hz,hs,hc⟩
   ·rw[hc]at hk;cases hk
   ·rw[hh t (f_ _ ht) (h.ok t ht)]at hc;cases hc
   ·have h2:=hw z (f_ _ hz) (h.ok z hz) hs
    rw[←It.eq_of hs h2 hc];exact hz
  ·exact h1
 ·rename_i hc
  have hc:(!x.ok||hidden l x||dj1 l x)=false:=by simpa using hc
  simp only[bR_,Bool.not_eq_false',hidden,dj1,S_,K_,not_and,bp_,Bool.not_eq_true,Bool.not_eq_false]at hc;obtain⟨⟨hk,hh⟩,hb⟩:=hc;have hxx:hides x x=false:=by rw[qz1];omega
  refine⟨⟨(qv1 h.rises).filter _,fun y hy=>?_,fun a ha b hb2=>?_⟩,fun y=>?_⟩
  ·rcases vz.1 (ab_.1 hy).1 with rfl|⟨h1,_⟩
   ·exact hk
   ·exact h.ok y h1
  ·obtain⟨ha1,ha2⟩:=ab_.1 ha
   obtain⟨hb1,hb3⟩:=ab_.1 hb2
   rcases vz.1 ha1 with rfl|⟨h1,_⟩
   ·simpa using hb3
   ·rcases vz.1 hb1 with rfl|⟨h2,_⟩
    ·exact hh a h1
    ·exact h.bare a h1 b h2
  ·rw[ab_,vz]
   constructor
   ·rintro⟨rfl|⟨hy,hn⟩,hf⟩
    ·refine⟨m_,hk,fun z hz _ hs=>?_,fun z hz _=>?_⟩
     ·rcases g_.1 hz with rfl|hz
      ·rw[yz];omega
      ·have:=hb z hz hs
       rw[vj1]at this;rw[yz];omega
     ·rcases g_.1 hz with rfl|hz
      ·exact hxx
      ·exact hh z hz
    ·have hf:hides x y=false:=by simpa using hf
     refine⟨f_ _ hy,h.ok y hy,fun z hz _ hs=>?_,fun z hz _=>?_⟩
     ·rcases g_.1 hz with rfl|hz
      ·rw[same_iff]at hs
       exfalso;have:same y z=true:=by rw[same_iff];omega
       rw[this]at hn;cases hn
      ·rw[kq1 h.rises hz hy hs,yz];omega
     ·rcases g_.1 hz with rfl|hz
      ·exact hf
      ·exact h.bare z hz y hy
   ·rintro⟨hy,hyk,hw,hh2⟩
    have hf:=hh2 x m_ hk;refine⟨?_,by simp[hf]⟩
    rcases g_.1 hy with h1|h1
    ·exact .inl h1
    ·refine .inr ⟨h1,?_⟩
     cases hs:same y x with
     |false=>rfl
     |true=>
      have h2:=hb y h1 hs;have h3:=hw x m_ hk (by rw[same_iff]at *;omega);rw[h2]at h3;cases h3
theorem vx2 (b:List It):∀{a:List It},Stt a→Stt (joins a b)∧∀y,y∈joins a b↔best (b++a) y:=by
 induction b with
 |nil=>exact fun h=>⟨h,h.best⟩
 |cons x b ih=>
  intro a h;obtain⟨h1,h2⟩:=xz4 (x:=x) h;obtain⟨h3,h4⟩:=ih h1;refine⟨h3,fun y=>(h4 y).trans ((oy4 (p:=fun y=>y∈add a x) (L:=x::a) h2 y (add a x) (fun y=>Iff.rfl)).trans ?_)⟩;exact Eqv.iq5 (fun y _=>by simp[or_left_comm]) y
theorem ik (l:List It) (x:It):(put l x).length≤l.length+1:=by
 have h1:(l.filter (fun y=>less y x)).length+(l.filter (fun y=>less x y)).length≤l.length:=by
  induction l with
  |nil=>simp
  |cons a r ih=>
   simp only[bf_,r_]
   cases h1:less a x<;>cases h2:less x a
   ·simp only[ao_,if_false];omega
   ·simp only[ao_,if_false,if_true,r_];omega
   ·simp only[ao_,if_false,if_true,r_];omega
   ·rw[vw]at h1 h2;omega
 unfold put;simp only[e_,r_];omega
theorem yk4 (l:List It) (x:It):(add l x).length≤l.length+1:=by
 unfold add;split
 ·omega
 ·exact h_ (ay_ _ _) (ik l x)
theorem rx2 (b:List It):∀a:List It,(joins a b).length≤a.length+b.length:=by
 induction b with
 |nil=>intro a;simp[joins]
 |cons x b ih=>
  intro a;have h1:=ih (add a x);have h2:=yk4 a x;simp only[joins,bj_,r_]at *;omega
end
section
open It
def wput (l:List It) (x:It):List It:=if dj1 l x=true then l else put l x
variable {L:List It} {x y:It}
def clean (l:List It):List It:=l.filter fun y=>!hidden l y
def fz1 (l:List It) (v:Nat):List It:=l.filter fun y=>!(y.k==1&&decide (y.v≤v))
end
section
open It
structure Nd where
 x:It
 b:Nat
 tb:Nat
 h:Nat
 c:Nat
def nxt (h:Nat) (l:List Nd):Option Nd:=l.find? fun n=>decide (h < n.h)
def nxb (h:Nat) (l:List Nd):Option Nat:=(nxt h l).map (·.b)
variable {ns:List Nd} {i h q j k:Nat} {n:Nd} {x:It}
theorem qq4 (e:nxt h (ns.drop (i+1))=some n):∃k,i < k∧ns[k]?=some n∧h < n.h∧∀m n',i < m→m < k→ns[m]?=some n'→n'.h≤h:=by
 obtain⟨h1,as1,bs,h2,h3⟩:=List.find?_eq_some_iff_append.1 e;have hg:∀m,ns[i+1+m]?=(as1++n::bs)[m]?:=fun m=>by rw[←h2,an_]
 refine⟨i+1+as1.length,by omega,by rw[hg,Y_ (by omega)];simp,by simpa using h1,fun m n' h4 h5 h6=>?_⟩;obtain⟨d,rfl⟩:∃d,m=i+1+d:=⟨m - (i+1),by omega⟩;rw[hg,J_ (by omega)]at h6;have:=h3 n' (p_ h6);simpa using this
theorem mw4 (e:nxt h (ns.drop (i+1))=none):∀m n',i < m→ns[m]?=some n'→n'.h≤h:=by
 intro m n' h4 h6;obtain⟨d,rfl⟩:∃d,m=i+1+d:=⟨m - (i+1),by omega⟩;have hm:n'∈ns.drop (i+1):=p_ (i:=d) (by rw[an_];exact h6);simpa using b2_.1 e n' hm
structure Pred (ns:List Nd) (h q j:Nat):Prop where
 lt:j < q
 on:∃n,ns[j]?=some n∧h < n.h
 last:∀i n,j < i→i < q→ns[i]?=some n→n.h≤h
def its (ns:List Nd):List It:=(ns.drop 1).map (·.x)
theorem mq2 (k:Nat):(its ns)[k]?=(ns[k+1]?).map (·.x):=by
 unfold its;rw[b3_,an_,Nat.add_comm]
theorem bv5 (hr:uq (its ns)) (hk:0 < k) (e:ns[k]?=some n):less n.x x=decide (k < pos (its ns) x+1):=by
 obtain⟨m,rfl⟩:∃m,k=m+1:=⟨k - 1,by omega⟩;have hg:(its ns)[m]?=some n.x:=by rw[mq2,e];rfl
 obtain⟨h1,h2⟩:=az2 hr x;have hm:m < (its ns).length:=(G_.1 hg).1
 cases hl:less n.x x with
 |true=>
  refine(decide_eq_true ?_).symm;apply aT_;intro hn;have:n.x∈(its ns).drop (pos (its ns) x):=p_ (i:=m - pos (its ns) x) (by rw[an_,←hg];congr 1;omega);rw[h2]at this;have:=(ab_.1 this).2;rw[hl]at this
  cases this
 |false=>
  refine(decide_eq_false fun hn=>?_).symm;have:n.x∈(its ns).take (pos (its ns) x):=p_ (i:=m) (by rw[aI_,if_pos (by omega),hg]);rw[h1]at this;have:=(ab_.1 this).2;rw[hl]at this
  cases this
theorem Pred.low (hp:Pred ns 0 q j) (hq:q≤ns.length) (h1:∀n∈ns,1≤n.h):j+1=q:=by
 apply aT_;intro hn;have hlt:=hp.lt;have hl:j+1 < ns.length:=by omega
 have:=hp.last (j+1) ns[j+1] (by omega) (by omega) (j_ hl);have:=h1 _ (v_ hl);omega
theorem iw3 {A R:List Nd} (h0:∀n∈A,n.h≤h):nxb h (A++R)=nxb h R:=by
 unfold nxb nxt;rw[a2_,b2_.2 (fun n hn=>by have:=h0 n hn;simpa using this)];simp
theorem lq4 {A R R':List Nd} (h0:∃n∈A,h < n.h):nxb h (A++R)=nxb h (A++R'):=by
 unfold nxb nxt;rw[a2_,a2_];obtain⟨n,hn,hh⟩:=h0
 cases e:A.find? fun n=>decide (h < n.h) with
 |none=>
  have:=b2_.1 e n hn;simp at this;omega
 |some m=>simp
theorem kx3 {A R:List Nd} {n n':Nd} (hb:n'.b=n.b) (hh:h < n'.h↔h < n.h):nxb h (A++n'::R)=nxb h (A++n::R):=by
 unfold nxb nxt;rw[a2_,a2_]
 cases e:A.find? fun n=>decide (h < n.h) with
 |none=>
  simp only[Option.none_or,bJ_]
  by_cases h1:h < n.h
  ·simp[h1,hh.2 h1,hb]
  ·have h2:¬h < n'.h:=fun h=>h1 (hh.1 h)
   simp[h1,h2]
 |some m=>simp
theorem bq5 {A R:List Nd} {n:Nd} (hn:n.h=0):nxb h (A++n::R)=nxb h (A++R):=by
 unfold nxb nxt;rw[a2_,a2_];simp[bJ_,hn]
theorem Pred.seg {A R:List Nd} (hp:Pred (A++R) h A.length j):∀m∈A.drop (j+1),m.h≤h:=by
 intro m hm;obtain⟨i,hi,rfl⟩:=aR_ hm;rw[B_]at hi;rw[List.getElem_drop];exact hp.last (j+1+i) _ (by omega) (by omega) (by rw[J_ (by omega)];exact j_ (by omega))
theorem raise {A R:List Nd} {n n':Nd} (hj:Pred (A++n::R) h A.length j) (hn:n.h=h) (hn':n'.h=h+1) (hb:n'.b=n.b) (i l:Nat) (m:Nd) (hm:(A++n'::R)[i]?=some m) (hl:l < m.h):
  nxb l ((A++n'::R).drop (i+1))=if i=j∧l=h then some n.b else if i=A.length∧l=h then nxb l ((A++n::R).drop (j+1)) else nxb l ((A++n::R).drop (i+1)):=by
 rcases Nat.lt_trichotomy i A.length with h1|h1|h1
 ·have e:∀n:Nd,(A++n::R).drop (i+1)=A.drop (i+1)++n::R:=fun n=>by rw[ae_ (by omega)]
  rw[J_ h1]at hm
  by_cases h2:l=h
  ·subst h2
   by_cases h3:i=j
   ·subst h3
    rw[if_pos ⟨rfl,rfl⟩,e,iw3 hj.seg];unfold nxb nxt;simp[bJ_,hn',hb]
   ·rw[if_neg (by simp[h3]),if_neg (by omega),e,e]
    rcases b1_ h3 with h4|h4
    ·obtain⟨p,hp,hh⟩:=hj.on
     have:=hj.lt;rw[J_ hj.lt]at hp;exact lq4 ⟨p,p_ (i:=j - (i+1)) (by rw[an_,←hp];congr 1;omega),hh⟩
    ·exfalso
     have:=hj.last i m h4 h1 (by rw[J_ h1];exact hm);omega
  ·rw[if_neg (by simp[h2]),if_neg (by simp[h2]),e,e]
   exact kx3 hb (by omega)
 ·subst h1
  have hlt:=hj.lt;rw[Y_ l_,bF_,gE0]at hm;injection hm with hm;subst hm;have e:∀n:Nd,(A++n::R).drop (A.length+1)=R:=fun n=>by
   rw[←aG_,a8_];rfl
  by_cases h2:l=h
  ·subst h2
   rw[if_neg (by omega),if_pos ⟨rfl,rfl⟩,e];have e2:(A++n::R).drop (j+1)=(A.drop (j+1)++[n])++R:=by rw[ae_ (by omega)];simp
   rw[e2,iw3];intro m hm
   rcases q_.1 hm with h3|h3
   ·exact hj.seg m h3
   ·rw[c_.1 h3,hn]
    exact x_ _
  ·rw[if_neg (by simp[h2]),if_neg (by simp[h2]),e,e]
 ·have hlt:=hj.lt
  have e:∀n:Nd,(A++n::R).drop (i+1)=R.drop (i - A.length):=fun n=>by
   rw[bA_,aq_ (by omega),y_];have:i+1 - A.length=(i - A.length)+1:=by omega
   rw[this,bD_]
  rw[if_neg (by omega),if_neg (by omega),e,e]
theorem ow3 {A R:List Nd} {n:Nd} (hA:0 < A.length):its (A++n::R)=(its (A++R)).take (A.length - 1)++n.x::(its (A++R)).drop (A.length - 1):=by
 unfold its;rw[ae_ (by omega),ae_ (by omega),aD_,aD_,aw_];have hl:((A.drop 1).map (·.x)).length=A.length - 1:=by simp
 rw[←hl,cf_,a8_]
end
section
open Go.RowKit
theorem uk4 (h:BitVec 64) (c:UInt8):IntKind.u64.wrap (bits .xor .u64 (h.toNat:Int) (IntKind.u64.wrap (c.toNat:Int))*1099511628211)=((Fnv.byte h c).toNat:Int):=by
 have h1:IntKind.u64.wrap (c.toNat:Int)=((BitVec.ofNat 64 c.toNat).toNat:Int):=by
  rw[←gk5,IntKind.wrap_u64];have:=c.toNat_lt;omega
 rw[h1,jk2,IntKind.wrap_u64,Fnv.byte,BitVec.toNat_mul];rfl
theorem lw3 (A:Option Addr) (n c:Nat) (l:List UInt8) (w:World) (hn:n≤9223372036854775807) (hr:Row w.heap.size w A n 1 (bts l)):
  Calls Tryz.prog 241 #[.slice A n c] w fun e w'=>e=.returned (.int .u64 ((Fnv.hash l).toNat:Int))∧w=w':=by
 go_enter Tryz.func241,Tryz.ntmps241;go_wp2
 go_loop [3,8,5] (fun x i _=>∃k:Nat,k≤n∧i=.int .i64 k∧x=.int .u64 ((Fnv.go Fnv.basis (l.take k)).toNat:Int)) (fun _ i _=>n - (intOf i).toNat)
 case atStart=>exact⟨0,t_ _,rfl,rfl⟩
 case round=>
  obtain⟨k,hk,rfl,rfl⟩:=hrel
  by_cases hlt:k < n
  ·obtain⟨a,hl,rfl,_,hc⟩:=hr.bt hlt
   go_wp2
   go_round
   case rel=>exact⟨k+1,by omega,by go_num,int_eq (by rw[Fnv.bx5 _ _ _ hl,uk4])⟩
   case measure=>simp[intOf];omega
  ·go_wp2
   go_ret;exact⟨fw3 (int_eq (by rw[i_ (by have:=hr.xk;omega)];rfl)),rfl⟩
end
section
open Go Go.RowKit
end
section
open It
end
section
namespace Crc
end Crc
end
section
namespace Crc
end Crc
end
section
namespace Crc
end Crc
end
end Go.Proofs.YthjdpplgfdihoaaGreatDoor
