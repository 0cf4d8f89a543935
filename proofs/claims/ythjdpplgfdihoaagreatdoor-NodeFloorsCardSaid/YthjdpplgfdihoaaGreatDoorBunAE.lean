/- Texts PlainItem, PlainRows, PlainBytes, PlainTable, PlainStore, Flat, Items, ItemA, PlainSkip, SkipA, SkipB in one. No conditions. -/
import Derived.Below
import Derived.Test.YthjdpplgfdihoaaGreatDoorBunAD
import Derived.Test.YthjdpplgfdihoaaGreatDoorBunAC
import Derived.Test.YthjdpplgfdihoaaGreatDoorBunAA
import Derived.Test.YthjdpplgfdihoaaGreatDoorRows
import Derived.BigQuiet
import Derived.Lib.Hide
import Derived.WalkKit
import Derived.WalkSpells
import Derived.WalkLawsBesides
import Derived.Deep.RegionWith
import Derived.Lib.MinMax
import Derived.Tactics
import Derived.Tactics2
import Derived.Laws.Pointers
import Derived.Laws.LoneSync
import Derived.Laws.NewBlocks

set_option linter.unusedSimpArgs false
set_option linter.unusedVariables false
set_option maxRecDepth 100000
set_option maxHeartbeats 16000000
namespace Go.Proofs.YthjdpplgfdihoaaGreatDoor
section
@[ext] structure It where
 s:Int
 k:Int
 t:Nat
 v:Nat
 x:Int
instance:DecidableEq It:=fun a b=>decidable_of_iff (a.s=b.s∧a.k=b.k∧a.t=b.t∧a.v=b.v∧a.x=b.x) ⟨fun⟨h1,h2,h3,h4,h5⟩=>It.ext h1 h2 h3 h4 h5,fun h=>by subst h;simp⟩
namespace It
def ok (a:It):Bool:=decide (0≤a.s) &&decide (a.s≤255) &&decide (1≤a.v) &&decide (a.v≤281474976710656) &&(a.k==1&&a.t==0&&a.x==0||a.k==2&&decide (a.t≤1099511627776))
def less (a b:It):Bool:=if a.s≠b.s then decide (a.s < b.s) else if a.k≠b.k then decide (a.k < b.k) else decide (a.t < b.t)
def same (a b:It):Bool:= !less a b&&!less b a
def wins (a b:It):Bool:=decide (b.v < a.v)||a.v==b.v&&decide (b.x < a.x)
def hides (t a:It):Bool:=t.k==1&&a.k==2&&t.s==a.s&&decide (a.v≤t.v)
variable {a b c d t:It}
theorem xy:less a b=true↔a.s < b.s∨a.s=b.s∧(a.k < b.k∨a.k=b.k∧a.t < b.t):=by
 unfold less;split<;>(try split) <;>simp<;>omega
theorem jv1:less a b=false↔¬(a.s < b.s∨a.s=b.s∧(a.k < b.k∨a.k=b.k∧a.t < b.t)):=by
 rw[←xy];simp
theorem same_iff:same a b=true↔a.s=b.s∧a.k=b.k∧a.t=b.t:=by
 unfold same;simp only[Bool.and_eq_true,Bool.not_eq_true',jv1];omega
theorem uj1:wins a b=true↔b.v < a.v∨a.v=b.v∧b.x < a.x:=by simp[wins]
theorem yw:wins a b=false↔¬(b.v < a.v∨a.v=b.v∧b.x < a.x):=by rw[←uj1];simp
theorem fx1:hides t a=true↔t.k=1∧a.k=2∧t.s=a.s∧a.v≤t.v:=by simp[hides,and_assoc]
theorem pk1:hides t a=false↔¬(t.k=1∧a.k=2∧t.s=a.s∧a.v≤t.v):=by rw[←fx1];simp
theorem oq1 (a:It):less a a=false:=by rw[jv1];omega
theorem tx2 (a:It):same a a=true:=by rw[same_iff];simp
theorem ey2 (h:less a b=true) (k:less b c=true):less a c=true:=by
 rw[xy]at *;omega
theorem eq_of (h:same a b=true) (k:wins a b=false) (k2:wins b a=false):a=b:=by
 rw[same_iff]at h;rw[yw]at k k2;exact It.ext (by omega) (by omega) (by omega) (by omega) (by omega)
end It
open It
def best (L:List It) (y:It):Prop:=y∈L∧y.ok=true∧(∀z∈L,z.ok=true→same z y=true→wins z y=false)∧∀z∈L,z.ok=true→hides z y=false
def Eqv (L L':List It):Prop:=∀y,best L y↔best L' y
variable {L L' A B:List It} {x y z:It}
theorem rv4 (L:List It) (z:It) (hz:z∈L) (hk:z.ok=true):∃y∈L,y.ok=true∧same y z=true∧wins z y=false∧∀u∈L,u.ok=true→same u y=true→wins u y=false:=by
 induction L generalizing z with
 |nil=>cases hz
 |cons a L ih=>
  by_cases hex:∃u∈L,u.ok=true∧same u z=true
  ·obtain⟨u,hu,huk,hus⟩:=hex
   obtain⟨y,hy,hyk,hys,_,hyw⟩:=ih u hu huk;have hyz:same y z=true:=by rw[same_iff]at *;omega
   by_cases ha:a.ok=true∧same a y=true∧wins a y=true
   ·obtain⟨ha,has,haw⟩:=ha
    refine⟨a,List.mem_cons_self,ha,by rw[same_iff]at *;omega,?_,fun u hu huk hus=>?_⟩
    ·rcases List.mem_cons.1 hz with rfl|hz
     ·rw[yw];omega
     ·have:=hyw z hz hk (by rw[same_iff]at *;omega)
      rw[uj1]at haw;rw[yw]at *;omega
    ·rcases List.mem_cons.1 hu with rfl|hu
     ·rw[yw];omega
     ·have:=hyw u hu huk (by rw[same_iff]at *;omega)
      rw[uj1]at haw;rw[yw]at *;omega
   ·have hay:a.ok=true→same a y=true→wins a y=false:=fun h1 h2=>by
     cases h:wins a y with
     |false=>rfl
     |true=>exact absurd ⟨h1,h2,h⟩ ha
    refine⟨y,List.mem_cons_of_mem _ hy,hyk,hyz,?_,fun u hu huk hus=>?_⟩
    ·rcases List.mem_cons.1 hz with rfl|hz
     ·exact hay hk (by rw[same_iff]at *;omega)
     ·exact hyw z hz hk (by rw[same_iff]at *;omega)
    ·rcases List.mem_cons.1 hu with rfl|hu
     ·exact hay huk hus
     ·exact hyw u hu huk hus
  ·have hz1:z=a:=by
    rcases List.mem_cons.1 hz with h|h
    ·exact h
    ·exact absurd ⟨z,h,hk,tx2 z⟩ hex
   subst hz1;refine⟨z,List.mem_cons_self,hk,tx2 z,by rw[yw];omega,fun u hu huk hus=>?_⟩
   rcases List.mem_cons.1 hu with rfl|hu
   ·rw[yw];omega
   ·exact absurd ⟨u,hu,huk,hus⟩ hex
theorem tj2 (hz:z∈L) (hk:z.ok=true):(∃y,best L y∧same y z=true∧wins z y=false)∨∃t,best L t∧hides t z=true:=by
 obtain⟨y,hy,hyk,hys,hyz,hyw⟩:=rv4 L z hz hk
 by_cases hh:∃t∈L,t.ok=true∧hides t y=true
 ·obtain⟨t,ht,htk,hth⟩:=hh
  obtain⟨u,hu,huk,hus,hut,huw⟩:=rv4 L t ht htk;rw[fx1]at hth;rw[same_iff]at hus hys;rw[yw]at hut hyz;refine .inr ⟨u,⟨hu,huk,huw,fun q _ _=>?_⟩,?_⟩
  ·rw[pk1];omega
  ·rw[fx1];omega
 ·refine .inl ⟨y,⟨hy,hyk,hyw,fun q hq hqk=>?_⟩,hys,hyz⟩
  cases h:hides q y with
  |false=>rfl
  |true=>exact absurd ⟨q,hq,hqk,h⟩ hh
theorem Eqv.between (h1:∀y,best L y→y∈L') (h2:∀y∈L',y.ok=true→y∈L):Eqv L' L:=by
 intro y;constructor
 ·rintro⟨hy,hk,hw,hh⟩
  refine⟨h2 y hy hk,hk,fun z hz hzk hs=>?_,fun z hz hzk=>?_⟩
  ·rcases tj2 hz hzk with ⟨u,hu,hus,huz⟩|⟨t,ht,hth⟩
   ·have:=hw u (h1 u hu) hu.2.1 (by rw[same_iff]at *;omega)
    rw[yw]at *;omega
   ·have h3:=hh t (h1 t ht) ht.2.1
    rw[same_iff]at hs;rw[pk1]at h3;rw[fx1]at hth;rw[yw];omega
  ·rcases tj2 hz hzk with ⟨u,hu,hus,huz⟩|⟨t,ht,hth⟩
   ·have h3:=hh u (h1 u hu) hu.2.1
    rw[same_iff]at hus;rw[yw]at huz;rw[pk1]at *;omega
   ·rw[fx1]at hth
    rw[pk1];omega
 ·rintro⟨hy,hk,hw,hh⟩
  exact⟨h1 y ⟨hy,hk,hw,hh⟩,hk,fun z hz hzk=>hw z (h2 z hz hzk) hzk,fun z hz hzk=>hh z (h2 z hz hzk) hzk⟩
theorem Eqv.ax5 (h:∀y,y.ok=true→(y∈L↔y∈L')):Eqv L L':=fun y=>
 ⟨fun⟨a,k,b,c⟩=>⟨(h y k).1 a,k,fun z hz hk=>b z ((h z hk).2 hz) hk,fun z hz hk=>c z ((h z hk).2 hz) hk⟩,
  fun⟨a,k,b,c⟩=>⟨(h y k).2 a,k,fun z hz hk=>b z ((h z hk).1 hz) hk,fun z hz hk=>c z ((h z hk).1 hz) hk⟩⟩
theorem best.of_sub (h:best L y) (hy:y∈L') (hs:∀z∈L',z∈L):best L' y:=⟨hy,h.2.1,fun z hz=>h.2.2.1 z (hs z hz),fun z hz=>h.2.2.2 z (hs z hz)⟩
theorem jy4 {p:It→Prop} (hp:∀y,p y↔best L y) (y:It) (l:List It) (hl:∀y,y∈l↔p y):best (A++l) y↔best (A++L) y:=by
 refine Eqv.between (L:=A++L) (fun y hy=>?_) (fun y hy _=>?_) y
 ·rcases List.mem_append.1 hy.1 with h|h
  ·exact List.mem_append_left _ h
  ·exact List.mem_append_right _ ((hl y).2 ((hp y).2 (hy.of_sub h (fun z hz=>List.mem_append_right _ hz))))
 ·rcases List.mem_append.1 hy with h|h
  ·exact List.mem_append_left _ h
  ·exact List.mem_append_right _ ((hp y).1 ((hl y).1 h)).1
def bq1 (l:List It):Prop:=l.Pairwise (fun a b=>less a b=true)
instance (l:List It):Decidable (bq1 l):=by unfold bq1;infer_instance
structure Stt (l:List It):Prop where
 rises:bq1 l
 ok:∀y∈l,y.ok=true
 bare:∀a∈l,∀b∈l,hides a b=false
theorem kv1 {l:List It} (h:bq1 l) {a b:It} (ha:a∈l) (hb:b∈l) (hs:same a b=true):a=b:=by
 induction l with
 |nil=>cases ha
 |cons c l ih=>
  obtain⟨h1,h2⟩:=List.pairwise_cons.1 h;rw[same_iff]at hs
  rcases List.mem_cons.1 ha with e1|e1<;>rcases List.mem_cons.1 hb with e2|e2
  ·rw[e1,e2]
  ·have:=h1 b e2;rw[←e1,xy]at this;omega
  ·have:=h1 a e1;rw[←e2,xy]at this;omega
  ·exact ih h2 e1 e2
theorem Stt.best {l:List It} (h:Stt l) (y:It):y∈l↔best l y:=
 ⟨fun hy=>⟨hy,h.ok y hy,fun z hz _ hs=>by rw[kv1 h.rises hz hy hs,yw];omega,fun z hz _=>h.bare z hz y hy⟩,fun hy=>hy.1⟩
theorem fw3:∀{l l':List It},bq1 l→bq1 l'→(∀y,y∈l↔y∈l')→l=l'
 |[],[],_,_,_=>rfl
 |[],b::r,_,_,h=>absurd ((h b).2 List.mem_cons_self) (by simp)
 |a::r,[],_,_,h=>absurd ((h a).1 List.mem_cons_self) (by simp)
 |a::r,b::q,h1,h2,h=>by
  obtain⟨a1,a2⟩:=List.pairwise_cons.1 h1;obtain⟨b1,b2⟩:=List.pairwise_cons.1 h2;have hab:a=b:=by
   rcases List.mem_cons.1 ((h a).1 List.mem_cons_self) with e|e
   ·exact e
   ·rcases List.mem_cons.1 ((h b).2 List.mem_cons_self) with f|f
    ·exact f.symm
    ·have h3:=b1 a e
     have h4:=a1 b f;rw[xy]at h3 h4;omega
  subst hab
  congr 1
  refine fw3 a2 b2 fun y=>⟨fun hy=>?_,fun hy=>?_⟩
  ·rcases List.mem_cons.1 ((h y).1 (List.mem_cons_of_mem _ hy)) with e|e
   ·subst e
    have:=a1 y hy;rw[oq1]at this
    cases this
   ·exact e
  ·rcases List.mem_cons.1 ((h y).2 (List.mem_cons_of_mem _ hy)) with e|e
   ·subst e
    have:=b1 y hy;rw[oq1]at this
    cases this
   ·exact e
theorem Stt.nil:Stt []:=⟨List.Pairwise.nil,(by simp),(by simp)⟩
def pos (l:List It) (x:It):Nat:=(l.takeWhile fun a=>less a x).length
def put (l:List It) (x:It):List It:=l.filter (fun y=>less y x)++x::l.filter (fun y=>less x y)
def hidden (l:List It) (x:It):Bool:=l.any fun t=>hides t x
def jq1 (l:List It) (x:It):Bool:=l.any fun y=>same y x&&!wins x y
def add (l:List It) (x:It):List It:=if (!x.ok||hidden l x||jq1 l x)=true then l else (put l x).filter fun y=>!hides x y
def joins (a b:List It):List It:=b.foldl add a
theorem qj2 (l:List It) (x:It):pos l x≤l.length:=by
 unfold pos;exact(List.takeWhile_prefix _).length_le
theorem vx1 {l:List It} (h:bq1 l) (x:It):l.take (pos l x)=l.filter (fun y=>less y x)∧l.drop (pos l x)=l.filter (fun y=>!less y x):=by
 induction l with
 |nil=>simp[pos]
 |cons a r ih=>
  obtain⟨a1,a2⟩:=List.pairwise_cons.1 h;have ih:=ih a2;unfold pos at ih ⊢
  cases hl:less a x with
  |true=>simp only[List.takeWhile_cons,hl,if_true,List.length_cons,List.take_succ_cons,List.drop_succ_cons,List.filter_cons,ih,Bool.not_true,Bool.false_eq_true,if_false,and_self]
  |false=>
   have h1:∀y∈r,less y x=false:=fun y hy=>by
    have:=a1 y hy;rw[xy]at this;rw[jv1]at *;omega
   have h2:r.filter (fun y=>less y x)=[]:=List.filter_eq_nil_iff.2 (fun y hy=>by simp[h1 y hy]);have h3:r.filter (fun y=>!less y x)=r:=List.filter_eq_self.2 (fun y hy=>by simp[h1 y hy]);simp[List.takeWhile_cons,hl,h2,h3]
theorem kz {l:List It}:y∈put l x↔y=x∨y∈l∧same y x=false:=by
 unfold put;simp only[List.mem_append,List.mem_filter,List.mem_cons];have:same y x=false↔less y x=true∨less x y=true:=by
  unfold same
  cases less y x<;>cases less x y<;>simp
 rw[this];constructor
 ·rintro(h|h|h)
  ·exact .inr ⟨h.1,.inl h.2⟩
  ·exact .inl h
  ·exact .inr ⟨h.1,.inr h.2⟩
 ·rintro(h|⟨h,k|k⟩)
  ·exact .inr (.inl h)
  ·exact .inl ⟨h,k⟩
  ·exact .inr (.inr ⟨h,k⟩)
theorem ow1 {l:List It} (h:bq1 l):bq1 (put l x):=by
 unfold put bq1;refine List.pairwise_append.2 ⟨h.filter _,List.pairwise_cons.2 ⟨fun y hy=>(List.mem_filter.1 hy).2,h.filter _⟩,fun a ha b hb=>?_⟩;have h1:=(List.mem_filter.1 ha).2
 rcases List.mem_cons.1 hb with rfl|hb
 ·exact h1
 ·exact ey2 h1 (List.mem_filter.1 hb).2
theorem qq3 {l:List It} (h:bq1 l) (hn:∀y,l[pos l x]?=some y→same y x=false):put l x=l.take (pos l x)++x::l.drop (pos l x):=by
 obtain⟨h1,h2⟩:=vx1 h x;unfold put;rw[h1]
 congr 2
 have hd:∀y∈l.drop (pos l x),less x y=true:=fun y hy=>by
  have hs:=h.sublist (List.drop_sublist (pos l x) l);have hy2:less y x=false:=by rw[h2]at hy;simpa using (List.mem_filter.1 hy).2
  cases hdr:l.drop (pos l x) with
  |nil=>rw[hdr]at hy;cases hy
  |cons c r=>
   have hc:l[pos l x]?=some c:=by
    have:=List.getElem?_drop (xs:=l) (i:=pos l x) (j:=0);rw[hdr]at this;simpa using this.symm
   have hcs:=hn c hc;have hcl:less c x=false:=by
    have:c∈l.drop (pos l x):=by rw[hdr];simp
    rw[h2]at this;simpa using (List.mem_filter.1 this).2
   have hxc:less x c=true:=by
    unfold same at hcs;rw[hcl]at hcs;simpa using hcs
   rw[hdr]at hy hs;obtain⟨p1,_⟩:=List.pairwise_cons.1 hs
   rcases List.mem_cons.1 hy with rfl|hy
   ·exact hxc
   ·exact ey2 hxc (p1 y hy)
 have e:l.filter (fun y=>less x y)=(l.drop (pos l x)).filter (fun y=>less x y):=by
  conv=>lhs;rw[←List.take_append_drop (pos l x) l,List.filter_append]
  rw[List.filter_eq_nil_iff.2,List.nil_append];intro y hy;rw[h1]at hy;have:=(List.mem_filter.1 hy).2;rw[xy]at this;simp only[Bool.not_eq_true,jv1];omega
 rw[e];exact List.filter_eq_self.2 hd
theorem vj4 {l:List It} (h:bq1 l) {c:It} (hc:l[pos l x]?=some c) (hs:same c x=true):put l x=l.set (pos l x) x:=by
 have hp:pos l x < l.length:=(List.getElem?_eq_some_iff.1 hc).1;have hcg:=(List.getElem?_eq_some_iff.1 hc).2;refine fw3 (ow1 h) ?_ (fun y=>?_)
 ·unfold bq1
  rw[List.set_eq_take_append_cons_drop,if_pos hp];have h0:bq1 (l.take (pos l x)++c::l.drop (pos l x+1)):=by
   rw[←hcg,List.getElem_cons_drop,List.take_append_drop];exact h
  obtain⟨b1,b2,b3⟩:=List.pairwise_append.1 h0;obtain⟨b4,b5⟩:=List.pairwise_cons.1 b2;rw[same_iff]at hs;refine List.pairwise_append.2 ⟨b1,List.pairwise_cons.2 ⟨fun y hy=>?_,b5⟩,fun a ha b hb=>?_⟩
  ·have:=b4 y hy
   rw[xy]at *;omega
  ·rcases List.mem_cons.1 hb with rfl|hb
   ·have:=b3 a ha c (by simp)
    rw[xy]at *;omega
   ·exact b3 a ha b (by simp[hb])
 ·rw[kz]
  constructor
  ·rintro(rfl|⟨hy,hn⟩)
   ·exact List.mem_set hp _
   ·obtain⟨i,hi,rfl⟩:=List.getElem_of_mem hy
    have hne:pos l x≠i:=fun e=>by subst e;rw[hcg,hs]at hn;cases hn
    exact List.mem_iff_getElem.2 ⟨i,by simpa using hi,by rw[List.getElem_set,if_neg hne]⟩
  ·intro hy
   obtain⟨i,hi,rfl⟩:=List.getElem_of_mem hy;simp only[List.length_set]at hi;rw[List.getElem_set];split
   ·exact .inl rfl
   ·rename_i hne
    refine .inr ⟨List.getElem_mem _,?_⟩
    cases hq:same l[i] x with
    |false=>rfl
    |true=>
     exfalso;have:l[i]=c:=kv1 h (List.getElem_mem _) (by rw[←hcg];exact List.getElem_mem _) (by rw[same_iff]at *;omega);rw[←hcg]at this;have h3:=List.pairwise_iff_getElem.1 h
     rcases Nat.lt_or_gt_of_ne hne with h4|h4
     ·have:=h3 _ _ hp hi h4
      simp_all [oq1]
     ·have:=h3 _ _ hi hp h4
      simp_all [oq1]
theorem vk4 {l:List It} (h:Stt l):Stt (add l x)∧∀y,y∈add l x↔best (x::l) y:=by
 unfold add;split
 ·rename_i hc
  refine⟨h,fun y=>(h.best y).trans (Eqv.between (L:=x::l) (L':=l) (fun y hy=>?_) (fun y hy _=>List.mem_cons_of_mem _ hy) y)⟩
  rcases List.mem_cons.1 hy.1 with rfl|h1
  ·obtain⟨_,hk,hw,hh⟩:=hy
   simp only[Bool.or_eq_true,Bool.not_eq_true',hidden,jq1,List.any_eq_true,Bool.and_eq_true]at hc
   rcases hc with (hc|⟨t,ht,hc⟩)|⟨z,hz,hs,hc⟩
   ·rw[hc]at hk;cases hk
   ·rw[hh t (List.mem_cons_of_mem _ ht) (h.ok t ht)]at hc;cases hc
   ·have h2:=hw z (List.mem_cons_of_mem _ hz) (h.ok z hz) hs
    rw[←It.eq_of hs h2 hc];exact hz
  ·exact h1
 ·rename_i hc
  have hc:(!x.ok||hidden l x||jq1 l x)=false:=by simpa using hc
  simp only[Bool.or_eq_false_iff,Bool.not_eq_false',hidden,jq1,List.any_eq_false,Bool.and_eq_true,not_and,Bool.not_eq_true',Bool.not_eq_true,Bool.not_eq_false]at hc;obtain⟨⟨hk,hh⟩,hb⟩:=hc;have hxx:hides x x=false:=by rw[pk1];omega
  refine⟨⟨(ow1 h.rises).filter _,fun y hy=>?_,fun a ha b hb2=>?_⟩,fun y=>?_⟩
  ·rcases kz.1 (List.mem_filter.1 hy).1 with rfl|⟨h1,_⟩
   ·exact hk
   ·exact h.ok y h1
  ·obtain⟨ha1,ha2⟩:=List.mem_filter.1 ha
   obtain⟨hb1,hb3⟩:=List.mem_filter.1 hb2
   rcases kz.1 ha1 with rfl|⟨h1,_⟩
   ·simpa using hb3
   ·rcases kz.1 hb1 with rfl|⟨h2,_⟩
    ·exact hh a h1
    ·exact h.bare a h1 b h2
  ·rw[List.mem_filter,kz]
   constructor
   ·rintro⟨rfl|⟨hy,hn⟩,hf⟩
    ·refine⟨List.mem_cons_self,hk,fun z hz _ hs=>?_,fun z hz _=>?_⟩
     ·rcases List.mem_cons.1 hz with rfl|hz
      ·rw[yw];omega
      ·have:=hb z hz hs
       rw[uj1]at this;rw[yw];omega
     ·rcases List.mem_cons.1 hz with rfl|hz
      ·exact hxx
      ·exact hh z hz
    ·have hf:hides x y=false:=by simpa using hf
     refine⟨List.mem_cons_of_mem _ hy,h.ok y hy,fun z hz _ hs=>?_,fun z hz _=>?_⟩
     ·rcases List.mem_cons.1 hz with rfl|hz
      ·rw[same_iff]at hs
       exfalso;have:same y z=true:=by rw[same_iff];omega
       rw[this]at hn;cases hn
      ·rw[kv1 h.rises hz hy hs,yw];omega
     ·rcases List.mem_cons.1 hz with rfl|hz
      ·exact hf
      ·exact h.bare z hz y hy
   ·rintro⟨hy,hyk,hw,hh2⟩
    have hf:=hh2 x List.mem_cons_self hk;refine⟨?_,by simp[hf]⟩
    rcases List.mem_cons.1 hy with h1|h1
    ·exact .inl h1
    ·refine .inr ⟨h1,?_⟩
     cases hs:same y x with
     |false=>rfl
     |true=>
      have h2:=hb y h1 hs;have h3:=hw x List.mem_cons_self hk (by rw[same_iff]at *;omega);rw[h2]at h3;cases h3
theorem vj1 (b:List It):∀{a:List It},Stt a→Stt (joins a b)∧∀y,y∈joins a b↔best (b++a) y:=by
 induction b with
 |nil=>exact fun h=>⟨h,h.best⟩
 |cons x b ih=>
  intro a h;obtain⟨h1,h2⟩:=vk4 (x:=x) h;obtain⟨h3,h4⟩:=ih h1;refine⟨h3,fun y=>(h4 y).trans ((jy4 (p:=fun y=>y∈add a x) (L:=x::a) h2 y (add a x) (fun y=>Iff.rfl)).trans ?_)⟩;exact Eqv.ax5 (fun y _=>by simp[or_left_comm]) y
def ofs (l:List It):List It:=joins [] l
theorem jv (l:List It) (x:It):(put l x).length≤l.length+1:=by
 have h1:(l.filter (fun y=>less y x)).length+(l.filter (fun y=>less x y)).length≤l.length:=by
  induction l with
  |nil=>simp
  |cons a r ih=>
   simp only[List.filter_cons,List.length_cons]
   cases h1:less a x<;>cases h2:less x a
   ·simp only[Bool.false_eq_true,if_false];omega
   ·simp only[Bool.false_eq_true,if_false,if_true,List.length_cons];omega
   ·simp only[Bool.false_eq_true,if_false,if_true,List.length_cons];omega
   ·rw[xy]at h1 h2;omega
 unfold put;simp only[List.length_append,List.length_cons];omega
theorem yw4 (l:List It) (x:It):(add l x).length≤l.length+1:=by
 unfold add;split
 ·omega
 ·exact Nat.le_trans (List.length_filter_le _ _) (jv l x)
theorem uq2 (b:List It):∀a:List It,(joins a b).length≤a.length+b.length:=by
 induction b with
 |nil=>intro a;simp[joins]
 |cons x b ih=>
  intro a;have h1:=ih (add a x);have h2:=yw4 a x;simp only[joins,List.foldl_cons,List.length_cons]at *;omega
end
section
open It
def wput (l:List It) (x:It):List It:=if jq1 l x=true then l else put l x
variable {L:List It} {x y:It}
end
section
open It
def sgn (x:Int):Nat:=if 0≤x then (2 *x).toNat else (-2 *x - 1).toNat
def ry1 (n:Nat):Int:=if n % 2=0 then (n / 2:Nat) else -((n / 2:Nat):Int) - 1
theorem bq4 (x:Int):ry1 (sgn x)=x:=by
 unfold ry1 sgn;split<;>split<;>omega
theorem rq4 {x:Int} (h1:-9223372036854775808≤x) (h2:x < 9223372036854775808):sgn x < 2 ^ 64:=by
 unfold sgn;split<;>omega
namespace It
def fit (a:It):Prop:=-9223372036854775808≤a.x∧a.x < 9223372036854775808
def one (a:It):List UInt8:=UInt8.ofNat a.s.toNat::UInt8.ofNat a.k.toNat::(Pn.put a.t++(Pn.put a.v++Pn.put (sgn a.x)))
def bytes (l:List It):List UInt8:=Pn.put l.length++l.flatMap one
def take1 (b:List UInt8):It×List UInt8×Nat:=
 if b.length < 2 then (⟨0,0,0,0,0⟩,[],4) else
 match Pn.take (b.drop 2) with
 |(t,n1,0)=>match Pn.take ((b.drop 2).drop n1) with
  |(v,n2,0)=>match Pn.take (((b.drop 2).drop n1).drop n2) with
   |(x,n3,0)=>(⟨Fr.u b 0,Fr.u b 1,t,v,ry1 x⟩,((b.drop 2).drop n1|>.drop n2).drop n3,0)
   |(_,_,e)=>(⟨0,0,0,0,0⟩,[],e)
  |(_,_,e)=>(⟨0,0,0,0,0⟩,[],e)
 |(_,_,e)=>(⟨0,0,0,0,0⟩,[],e)
def takes:Nat→List UInt8→List It→List It×List UInt8×Nat
 |0,b,out=>(out,b,0)
 |n+1,b,out=>match take1 b with
  |(x,r,0)=>takes n r (out++[x])
  |(_,_,e)=>([],[],e)
def read (b:List UInt8):List It×Nat:=match Pn.take b with
 |(n,size,0)=>if 2000 < n then ([],2) else match takes n (b.drop size) [] with
  |(out,r,0)=>if r=[]∧out.all ok=true then (out,0) else ([],3)
  |(_,_,e)=>([],e)
 |(_,_,e)=>([],e)
theorem iv3 {a:It}:a.ok=true↔0≤a.s∧a.s≤255∧1≤a.v∧a.v≤281474976710656∧(a.k=1∧a.t=0∧a.x=0∨a.k=2∧a.t≤1099511627776):=by
 simp[ok,and_assoc]
theorem bw4 {a:It} (h:a.ok=true) (hf:a.fit) (r:List UInt8):take1 (a.one++r)=(a,r,0):=by
 rw[iv3]at h;have e1:(a.one++r).drop 2=Pn.put a.t++(Pn.put a.v++(Pn.put (sgn a.x)++r)):=by simp[one]
 have l2:¬(a.one++r).length < 2:=by simp[one]
 unfold take1;rw[if_neg l2,e1,Pn.oq _ _ (by omega)];simp only[List.drop_left];rw[Pn.oq _ _ (by omega)];simp only[List.drop_left];rw[Pn.oq _ _ (rq4 hf.1 hf.2)];simp only[List.drop_left];have u0:((Fr.u (a.one++r) 0:Nat):Int)=a.s:=by
  simp only[Fr.u,one,List.cons_append,List.getD_cons_zero];rw[Fr.u8n _ (by omega)];omega
 have u1:((Fr.u (a.one++r) 1:Nat):Int)=a.k:=by
  simp only[Fr.u,one,List.cons_append,List.getD_cons_succ,List.getD_cons_zero];rw[Fr.u8n _ (by omega)];omega
 rw[u0,u1,bq4]
theorem xk1:∀(l:List It) (out:List It) (r:List UInt8),(∀a∈l,a.ok=true∧a.fit)→takes l.length (l.flatMap one++r) out=(out++l,r,0)
 |[],out,r,_=>by simp[takes]
 |a::l,out,r,h=>by
  have h1:=h a List.mem_cons_self;simp only[List.length_cons,takes,List.flatMap_cons,List.append_assoc,bw4 h1.1 h1.2];rw[xk1 l (out++[a]) r (fun b hb=>h b (List.mem_cons_of_mem _ hb))];simp
theorem qz1 {l:List It} (h:∀a∈l,a.ok=true∧a.fit) (hl:l.length≤2000):read (bytes l)=(l,0):=by
 unfold read bytes;rw[Pn.oq _ _ (by omega)];simp only[List.drop_left];rw[if_neg (by omega),show l.flatMap one=l.flatMap one++[] from (List.append_nil _).symm,xk1 l [] [] h];have hal:l.all ok=true:=List.all_eq_true.2 fun a ha=>(h a ha).1;simp[hal]
theorem sq4 (a:It):2≤a.one.length∧a.one.length≤32:=by
 have h1:=Pn.jv a.t;have h2:=Pn.jv a.v;have h3:=Pn.jv (sgn a.x);simp only[one,List.length_cons,List.length_append];omega
theorem cz1 (l:List It):(bytes l).length≤10+32 *l.length:=by
 have h1:=Pn.jv l.length;have h2:∀l:List It,(l.flatMap one).length≤32 *l.length:=fun l=>by
  induction l with
  |nil=>simp
  |cons a l ih=>have:=sq4 a;simp only[List.flatMap_cons,List.length_append,List.length_cons];omega
 have:=h2 l;simp only[bytes,List.length_append];omega
def key (a:It):List UInt8:=UInt8.ofNat a.s.toNat::UInt8.ofNat a.k.toNat::[56,48,40,32,24,16,8,0].map fun k=>UInt8.ofNat (a.t / 2 ^ k)
end It
end
section
open It
namespace Tb
def cut (n:Nat):Nat→List It→List (List It)
 |0,_=>[]
 |f+1,l=>if l=[] then [] else l.take n::cut n f (l.drop n)
end Tb
namespace Lg
def batch (l:List It):List UInt8:=Fr.put 1 (It.bytes l)
def text (ls:List (List It)):List UInt8:=Fr.all 1 (ls.map It.bytes)
theorem py2 (l:List It):(batch l).length≤22+32 *l.length:=by
 have:=It.cz1 l;rw[batch,Fr.qw];omega
end Lg
end
section
open Go
structure Sv where
 M:Gs
 nm:List UInt8
 sz:Nat
 ct:Nat
 mem:List It
 tabs:List ((Int×Int)×List (List It))
 st:List It
 only:Bool
namespace St
def jk:List UInt8:=[108,111,103,46,49]
def jx3:List UInt8:=[109,97,110,46,49]
def aq1 (s:List UInt8):Bool:=(s==Mw.kCur||s==Mw.gq)||[Mn.kLog,Mn.kTab,Mn.kMan].any fun k=>(Mn.number s k).isSome
def isNone (S:Sd) (s:List UInt8):Bool:=(s==Mw.gq||s==jx3)||(s==jk&&(S.read s).1.length==0)
def uy2 (S:Sd):Bool:= !(S.list.any fun s=>aq1 s&&!isNone S s)
def wipe:List (List UInt8)→Sd→Sd×Nat
 |[],S=>(S,0)
 |s::r,S=>if aq1 s=true then (if (S.remove s).2=0 then wipe r (S.remove s).1 else S.remove s) else wipe r S
def first:Gs:=⟨[],⟨1,[],0,0,0,0⟩,0,false⟩
def create (S:Sd):Sd×Option Sv×Nat:=
 let a:=wipe S.list S
 if a.2≠0 then (a.1,none,a.2) else
 let b:=a.1.create jk
 if b.2≠0 then (b.1,none,b.2) else
 let c:=b.1.sync jk
 if c.2≠0 then (c.1,none,c.2) else
 let r:=Gw.rewrite c.1 first (Mn.name Mn.kMan 1)
 if r.2.2≠0 then (r.1,none,r.2.2) else (r.1,some ⟨r.2.1,jk,0,0,[],[],[],false⟩,0)
def saved (S:Sd) (V:Sv) (x:Ed):Sd×Sv×Nat:=
 let r:=Gw.save S V.M x
 (r.1,{ V with M:=r.2.1,only:=V.only||r.2.1.broken },r.2.2)
def apply (S:Sd) (V:Sv) (l:List It):Sd×Sv×Nat:=
 if V.only=true then (S,V,14) else
 if l=[]∨l.all It.ok=false then (S,V,1) else
 if 1000 < l.length then (S,V,2) else
 if 1500 < (joins V.st l).length then (S,V,2) else
 let a:=S.append V.nm (Lg.batch l)
 if a.2≠0 then (a.1,V,a.2) else (a.1,{ V with sz:=V.sz+(Lg.batch l).length,ct:=V.ct+1,mem:=l.foldl wput V.mem,st:=joins V.st l },0)
end St
end
section
open Go Go.RowKit
theorem xq1 {α:Type} (f:α→List Value) (sz:Nat) (hf:∀x,(f x).length=sz) (l:List α):(l.flatMap f).length=l.length *sz:=by
 induction l with
 |nil=>simp
 |cons h t ih=>rw[List.flatMap_cons,List.length_append,ih,hf,List.length_cons,Nat.add_mul];omega
theorem wy1 {α:Type} (f:α→List Value) (sz:Nat) (hf:∀x,(f x).length=sz):∀(l:List α) (k j:Nat) (hk:k < l.length),j < sz→(l.flatMap f)[k *sz+j]?=(f l[k])[j]?
 |h::t,0,j,_,hj=>by
  rw[List.flatMap_cons,List.getElem?_append_left (by rw[hf];omega)];simp
 |h::t,k+1,j,hk,hj=>by
  have e:(k+1)*sz+j - (f h).length=k *sz+j:=by rw[hf,Nat.add_mul];omega
  rw[List.flatMap_cons,List.getElem?_append_right (by rw[hf,Nat.add_mul];omega),e,wy1 f sz hf t k j (by simpa using hk) hj];simp
theorem uk1 {B n sz:Nat} {w:World} {A:Option Addr} {vs:List Value} (h:Row B w A n sz vs) {i:Nat} {v:Value} (hv:vs[i]?=some v):∃a,A=some a∧a.block < B∧w.cell? (a.add i)=some v:=by
 obtain⟨hi,e⟩:=List.getElem?_eq_some_iff.1 hv;obtain⟨a,ea,hb,hc⟩:=h.cell i hi;exact⟨a,ea,hb,by rw[hc,e]⟩
end
section
open Go Go.RowKit
theorem xz4 (a:Addr) (k:Nat) {j:Nat} (hj:0 < j):a.add (k+j)=⟨(a.add k).block,(a.add k).off+j,none⟩:=by
 rw[←vv1,Addr.add,if_neg (by omega)]
def It.cells (a:It):List Value:=[.int .i64 a.s,.int .i64 a.k,.int .u64 (a.t:Int),.int .u64 (a.v:Int),.int .i64 a.x]
def It.val (a:It):Value:=.agg #[.int .i64 a.s,.int .i64 a.k,.int .u64 (a.t:Int),.int .u64 (a.v:Int),.int .i64 a.x]
theorem It.gz (a:It):a.cells.length=5:=rfl
theorem iq {a b:Bool} (h:a=b):Ending.returned (.bool a)=.returned (.bool b):=by rw[h]
def itc (l:List It):List Value:=l.flatMap It.cells
theorem ik (l:List It):(itc l).length=l.length *5:=xq1 It.cells 5 It.gz l
theorem cw3 (l:List It) (k j:Nat) (hk:k < l.length) (hj:j < 5):(itc l)[k *5+j]?=(l[k]).cells[j]?:=wy1 It.cells 5 It.gz l k j hk hj
theorem bz1 (a b:List It):itc (a++b)=itc a++itc b:=by simp[itc]
theorem fq1 (l:List It):∀u∈itc l,u.oneCell'=true:=by
 intro u hu;simp only[itc,List.mem_flatMap,It.cells,List.mem_cons,List.not_mem_nil,or_false]at hu;obtain⟨a,_,rfl|rfl|rfl|rfl|rfl⟩:=hu<;>rfl
theorem pz1 (l:List It) (k:Nat):itc (l.take k)=(itc l).take (k *5):=by
 induction l generalizing k with
 |nil=>simp[itc]
 |cons a l ih=>
  cases k with
  |zero=>simp[itc]
  |succ k=>
   have e:(k+1)*5=k *5+5:=by omega
   have h:=ih k;unfold itc at h ⊢;rw[List.take_succ_cons,List.flatMap_cons,List.flatMap_cons,h,e];rfl
theorem lv2 (l:List It) (k:Nat):itc (l.drop k)=(itc l).drop (k *5):=by
 induction l generalizing k with
 |nil=>simp[itc]
 |cons a l ih=>
  cases k with
  |zero=>simp[itc]
  |succ k=>
   have e:(k+1)*5=k *5+5:=by omega
   have h:=ih k;unfold itc at h ⊢;rw[List.drop_succ_cons,List.flatMap_cons,h,e];rfl
structure ItAt (w:World) (a:Addr) (k:Nat) (x:It):Prop where
 c0:w.cell? (a.add (k *5))=some (.int .i64 x.s)
 c1:w.cell? ⟨(a.add (k *5)).block,(a.add (k *5)).off+1,none⟩=some (.int .i64 x.k)
 c2:w.cell? ⟨(a.add (k *5)).block,(a.add (k *5)).off+2,none⟩=some (.int .u64 (x.t:Int))
 c3:w.cell? ⟨(a.add (k *5)).block,(a.add (k *5)).off+3,none⟩=some (.int .u64 (x.v:Int))
 c4:w.cell? ⟨(a.add (k *5)).block,(a.add (k *5)).off+4,none⟩=some (.int .i64 x.x)
variable {B B' n:Nat} {w w':World} {A:Option Addr} {xs:List It}
theorem Row.bj1 (h:Row B w A n 5 (itc xs)):xs.length=n:=by
 have:=h.len;rw[ik]at this;omega
theorem Row.it (h:Row B w A n 5 (itc xs)) {k:Nat} (hk:k < n):∃a,∃hl:k < xs.length,A=some a∧a.block < B∧ItAt w a k xs[k]:=by
 have hl:k < xs.length:=by have:=h.bj1;omega
 have g:=fun j (hj:j < 5)=>cw3 xs k j hl hj;obtain⟨a,ea,hb,c0⟩:=uk1 h (g 0 (by omega));have cd:∀j v,0 < j→j < 5→(It.cells xs[k])[j]?=some v→w.cell? ⟨(a.add (k *5)).block,(a.add (k *5)).off+j,none⟩=some v:=fun j v h0 hj hv=>by
  obtain⟨a',ea',_,c⟩:=uk1 h ((g j hj).trans hv);rw[ea]at ea';injection ea' with ea';subst ea';rw[←xz4 a (k *5) h0];exact c
 exact⟨a,hl,ea,hb,⟨c0,cd 1 _ (by omega) (by omega) rfl,cd 2 _ (by omega) (by omega) rfl,cd 3 _ (by omega) (by omega) rfl,cd 4 _ (by omega) (by omega) rfl⟩⟩
theorem ItAt.below {a:Addr} {k:Nat} {x:It} (h:ItAt w a k x) (ha:a.block < B) (hb:Below B w w'):ItAt w' a k x:=by
 have e:(a.add (k *5)).block < B:=by rw[add_block];exact ha
 exact⟨(hb.cell e).trans h.c0,(hb.cell (p:=⟨(a.add (k *5)).block,(a.add (k *5)).off+1,none⟩) e).trans h.c1,(hb.cell (p:=⟨(a.add (k *5)).block,(a.add (k *5)).off+2,none⟩) e).trans h.c2,(hb.cell (p:=⟨(a.add (k *5)).block,(a.add (k *5)).off+3,none⟩) e).trans h.c3,(hb.cell (p:=⟨(a.add (k *5)).block,(a.add (k *5)).off+4,none⟩) e).trans h.c4⟩
end
section
open Go Go.RowKit
theorem kk1 (a b:It) (w:World):Calls Tryz.prog 163 #[a.val,b.val] w fun e w'=>e=.returned (.bool (a.less b))∧Below w.heap.size w w':=by
 obtain⟨s1,k1,t1,v1,x1⟩:=a;obtain⟨s2,k2,t2,v2,x2⟩:=b;have hb0:=((Below.refl w.heap.size w).alloc (Nat.le_refl _) (.cells #[.int .i64 s1,.int .i64 k1,.int .u64 (t1:Int),.int .u64 (v1:Int),.int .i64 x1] 36)).alloc (by simp) (.cells #[.int .i64 s2,.int .i64 k2,.int .u64 (t2:Int),.int .u64 (v2:Int),.int .i64 x2] 36);obtain⟨r,hr⟩:∃r,r=It.less ⟨s1,k1,t1,v1,x1⟩ ⟨s2,k2,t2,v2,x2⟩:=⟨_,rfl⟩;rw[←hr];unfold It.less at hr;unfold It.val;simp only at hr ⊢
 by_cases h1:s1=s2
 ·subst h1
  by_cases h2:k1=k2
  ·subst h2
   by_cases h3:(t1:Int) < (t2:Int)
   ·have h4:t1 < t2:=by omega
    have HB:=Lib.hid (hr.trans (show _=true by simp[h4]));clear hr;go_enter Tryz.func163,Tryz.ntmps163;go_wp2;go_ret;exact⟨iq HB.out.symm,hb0⟩
   ·have h4:¬t1 < t2:=by omega
    have HB:=Lib.hid (hr.trans (show _=false by simp[h4]));clear hr;go_enter Tryz.func163,Tryz.ntmps163;go_wp2;go_ret;exact⟨iq HB.out.symm,hb0⟩
  ·have e2:(k1==k2)=false:=by simpa using h2
   by_cases h3:k1 < k2
   ·have HB:=Lib.hid (hr.trans (show _=true by simp[h2,h3]))
    clear hr;go_enter Tryz.func163,Tryz.ntmps163;go_wp2;go_ret;exact⟨iq HB.out.symm,hb0⟩
   ·have HB:=Lib.hid (hr.trans (show _=false by simp[h2,h3]))
    clear hr;go_enter Tryz.func163,Tryz.ntmps163;go_wp2;go_ret;exact⟨iq HB.out.symm,hb0⟩
 ·have e1:(s1==s2)=false:=by simpa using h1
  by_cases h3:s1 < s2
  ·have HB:=Lib.hid (hr.trans (show _=true by simp[h1,h3]))
   clear hr;go_enter Tryz.func163,Tryz.ntmps163;go_wp2;go_ret;exact⟨iq HB.out.symm,hb0⟩
  ·have HB:=Lib.hid (hr.trans (show _=false by simp[h1,h3]))
   clear hr;go_enter Tryz.func163,Tryz.ntmps163;go_wp2;go_ret;exact⟨iq HB.out.symm,hb0⟩
theorem pz2 (a b:It) (w:World):Calls Tryz.prog 166 #[a.val,b.val] w fun e w'=>e=.returned (.bool (a.wins b))∧Below w.heap.size w w':=by
 obtain⟨s1,k1,t1,v1,x1⟩:=a;obtain⟨s2,k2,t2,v2,x2⟩:=b;have hb0:=((Below.refl w.heap.size w).alloc (Nat.le_refl _) (.cells #[.int .i64 s1,.int .i64 k1,.int .u64 (t1:Int),.int .u64 (v1:Int),.int .i64 x1] 36)).alloc (by simp) (.cells #[.int .i64 s2,.int .i64 k2,.int .u64 (t2:Int),.int .u64 (v2:Int),.int .i64 x2] 36);obtain⟨r,hr⟩:∃r,r=It.wins ⟨s1,k1,t1,v1,x1⟩ ⟨s2,k2,t2,v2,x2⟩:=⟨_,rfl⟩;rw[←hr];unfold It.wins at hr;unfold It.val;simp only at hr ⊢
 by_cases h1:(v2:Int) < (v1:Int)
 ·have h4:v2 < v1:=by omega
  have HB:=Lib.hid (hr.trans (show _=true by simp[h4]));clear hr;go_enter Tryz.func166,Tryz.ntmps166;go_wp2;go_ret;exact⟨iq HB.out.symm,hb0⟩
 ·have h4:¬v2 < v1:=by omega
  by_cases h2:v1=v2
  ·subst h2
   by_cases h3:x2 < x1
   ·have HB:=Lib.hid (hr.trans (show _=true by simp[h3]))
    clear hr;go_enter Tryz.func166,Tryz.ntmps166;go_wp2;go_ret;exact⟨iq HB.out.symm,hb0⟩
   ·have HB:=Lib.hid (hr.trans (show _=false by simp[h3]))
    clear hr;go_enter Tryz.func166,Tryz.ntmps166;go_wp2;go_ret;exact⟨iq HB.out.symm,hb0⟩
  ·have e2:((v1:Int)==(v2:Int))=false:=by rw[beq_eq_false_iff_ne];omega
   have HB:=Lib.hid (hr.trans (show _=false by simp[h4,h2]));clear hr;go_enter Tryz.func166,Tryz.ntmps166;go_wp2;go_ret;exact⟨iq HB.out.symm,hb0⟩
theorem fv2 (a b:It) (w:World):Calls Tryz.prog 246 #[a.val,b.val] w fun e w'=>e=.returned (.bool (a.hides b))∧Below w.heap.size w w':=by
 obtain⟨s1,k1,t1,v1,x1⟩:=a;obtain⟨s2,k2,t2,v2,x2⟩:=b;have hb0:=((Below.refl w.heap.size w).alloc (Nat.le_refl _) (.cells #[.int .i64 s1,.int .i64 k1,.int .u64 (t1:Int),.int .u64 (v1:Int),.int .i64 x1] 36)).alloc (by simp) (.cells #[.int .i64 s2,.int .i64 k2,.int .u64 (t2:Int),.int .u64 (v2:Int),.int .i64 x2] 36);obtain⟨r,hr⟩:∃r,r=It.hides ⟨s1,k1,t1,v1,x1⟩ ⟨s2,k2,t2,v2,x2⟩:=⟨_,rfl⟩;rw[←hr];unfold It.hides at hr;unfold It.val;simp only at hr ⊢
 by_cases h1:k1=1
 ·subst h1
  by_cases h2:k2=2
  ·subst h2
   by_cases h3:s1=s2
   ·subst h3
    by_cases h4:(v2:Int)≤(v1:Int)
    ·have h5:v2≤v1:=by omega
     have HB:=Lib.hid (hr.trans (show _=true by simp[h5]));clear hr;go_enter Tryz.func246,Tryz.ntmps246;go_wp2;go_ret;exact⟨iq HB.out.symm,hb0⟩
    ·have h5:¬v2≤v1:=by omega
     have HB:=Lib.hid (hr.trans (show _=false by simp[h5]));clear hr;go_enter Tryz.func246,Tryz.ntmps246;go_wp2;go_ret;exact⟨iq HB.out.symm,hb0⟩
   ·have e3:(s1==s2)=false:=by simpa using h3
    have HB:=Lib.hid (hr.trans (show _=false by simp[h3]));clear hr;go_enter Tryz.func246,Tryz.ntmps246;go_wp2;go_ret;exact⟨iq HB.out.symm,hb0⟩
  ·have e2:(k2==2)=false:=by simpa using h2
   have HB:=Lib.hid (hr.trans (show _=false by simp[h2]));clear hr;go_enter Tryz.func246,Tryz.ntmps246;go_wp2;go_ret;exact⟨iq HB.out.symm,hb0⟩
 ·have e1:(k1==1)=false:=by simpa using h1
  have HB:=Lib.hid (hr.trans (show _=false by simp[h1]));clear hr;go_enter Tryz.func246,Tryz.ntmps246;go_wp2;go_ret;exact⟨iq HB.out.symm,hb0⟩
theorem vw2 (a b:It) (w:World):Calls Tryz.prog 165 #[a.val,b.val] w fun e w'=>e=.returned (.bool (a.same b))∧Below w.heap.size w w':=by
 obtain⟨s1,k1,t1,v1,x1⟩:=a;obtain⟨s2,k2,t2,v2,x2⟩:=b;have hb0:=((Below.refl w.heap.size w).alloc (Nat.le_refl _) (.cells #[.int .i64 s1,.int .i64 k1,.int .u64 (t1:Int),.int .u64 (v1:Int),.int .i64 x1] 36)).alloc (by simp) (.cells #[.int .i64 s2,.int .i64 k2,.int .u64 (t2:Int),.int .u64 (v2:Int),.int .i64 x2] 36);have hl:=fun W=>kk1 ⟨s1,k1,t1,v1,x1⟩ ⟨s2,k2,t2,v2,x2⟩ W;have hl2:=fun W=>kk1 ⟨s2,k2,t2,v2,x2⟩ ⟨s1,k1,t1,v1,x1⟩ W;unfold It.val It.same;unfold It.val at hl hl2;simp only at hl hl2 ⊢;generalize It.less ⟨s1,k1,t1,v1,x1⟩ ⟨s2,k2,t2,v2,x2⟩=p at *;generalize It.less ⟨s2,k2,t2,v2,x2⟩ ⟨s1,k1,t1,v1,x1⟩=q at *;have HL:=Lib.hid hl;have HL2:=Lib.hid hl2;have hA:=(BoxO.new w #[.int .i64 s1,.int .i64 k1,.int .u64 (t1:Int),.int .u64 (v1:Int),.int .i64 x1] 36).alloc (.cells #[.int .i64 s2,.int .i64 k2,.int .u64 (t2:Int),.int .u64 (v2:Int),.int .i64 x2] 36);have hB:=BoxO.new (w.alloc (.cells #[.int .i64 s1,.int .i64 k1,.int .u64 (t1:Int),.int .u64 (v1:Int),.int .i64 x1] 36)) #[.int .i64 s2,.int .i64 k2,.int .u64 (t2:Int),.int .u64 (v2:Int),.int .i64 x2] 36;rw[World.size_alloc]at hB;clear hl hl2
 cases p with
 |true=>
  clear hA hB HL2;go_enter Tryz.func165,Tryz.ntmps165;go_wp2_with fail;refine(HL.out _).mono ?_;rintro e w1 ⟨rfl,hb1⟩;have hbz:=az hb0 hb1;go_wp2;go_ret;exact⟨rfl,hbz⟩
 |false=>
  go_enter Tryz.func165,Tryz.ntmps165;go_wp2_with fail;refine(HL.out _).mono ?_;rintro e w1 ⟨rfl,hb1⟩;have hbz:=az hb0 hb1;have kA:=hA.below hb1;have kB:=hB.below hb1;have a0:=kA.cell 0;have a1:=kA.cell 1;have a2:=kA.cell 2;have a3:=kA.cell 3;have a4:=kA.cell 4;have b0:=kB.cell 0;have b1:=kB.cell 1;have b2:=kB.cell 2;have b3:=kB.cell 3;have b4:=kB.cell 4;simp only[gE0,gE1]at a0 a1 a2 a3 a4 b0 b1 b2 b3 b4;clear hA hB kA kB HL;go_wp2_with fail;refine(HL2.out _).mono ?_;rintro e w2 ⟨rfl,hb2⟩;have hby:=az hbz hb2
  cases q
  all_goals
   go_wp2;go_ret;exact⟨rfl,hby⟩
theorem wq1 (a:It) (w:World):Calls Tryz.prog 169 #[a.val] w fun e w'=>e=.returned (.bool a.ok)∧Below w.heap.size w w':=by
 obtain⟨s1,k1,t1,v1,x1⟩:=a;have hb0:=(Below.refl w.heap.size w).alloc (Nat.le_refl _) (.cells #[.int .i64 s1,.int .i64 k1,.int .u64 (t1:Int),.int .u64 (v1:Int),.int .i64 x1] 36);obtain⟨r,hr⟩:∃r,r=It.ok ⟨s1,k1,t1,v1,x1⟩:=⟨_,rfl⟩;rw[←hr];unfold It.ok at hr;unfold It.val;simp only at hr ⊢
 by_cases h1:s1 < 0
 ·have g1:¬0≤s1:=by omega
  have HB:=Lib.hid (hr.trans (show _=false by simp[g1]));clear hr;go_enter Tryz.func169,Tryz.ntmps169;go_wp2;go_ret;exact⟨iq HB.out.symm,hb0⟩
 have g1:0≤s1:=by omega
 by_cases h2:255 < s1
 ·have g2:¬s1≤255:=by omega
  have HB:=Lib.hid (hr.trans (show _=false by simp[g2]));clear hr;go_enter Tryz.func169,Tryz.ntmps169;go_wp2;go_ret;exact⟨iq HB.out.symm,hb0⟩
 have g2:s1≤255:=by omega
 by_cases h3:(v1:Int) < 1
 ·have g3:¬1≤v1:=by omega
  have HB:=Lib.hid (hr.trans (show _=false by simp[g3]));clear hr;go_enter Tryz.func169,Tryz.ntmps169;go_wp2;go_ret;exact⟨iq HB.out.symm,hb0⟩
 have g3:1≤v1:=by omega
 by_cases h4:281474976710656 < (v1:Int)
 ·have g4:¬v1≤281474976710656:=by omega
  have HB:=Lib.hid (hr.trans (show _=false by simp[g4]));clear hr;go_enter Tryz.func169,Tryz.ntmps169;go_wp2;go_ret;exact⟨iq HB.out.symm,hb0⟩
 have g4:v1≤281474976710656:=by omega
 by_cases h5:k1=1
 ·subst h5
  by_cases h6:t1=0
  ·subst h6
   by_cases h7:x1=0
   ·subst h7
    have HB:=Lib.hid (hr.trans (show _=true by simp[g1,g2,g3,g4]));clear hr;go_enter Tryz.func169,Tryz.ntmps169;go_wp2;go_ret;exact⟨iq HB.out.symm,hb0⟩
   ·have e7:(x1==0)=false:=by simpa using h7
    have HB:=Lib.hid (hr.trans (show _=false by simp[h7]));clear hr;go_enter Tryz.func169,Tryz.ntmps169;go_wp2;go_ret;exact⟨iq HB.out.symm,hb0⟩
  ·have e6:((t1:Int)==0)=false:=by rw[beq_eq_false_iff_ne];omega
   have HB:=Lib.hid (hr.trans (show _=false by simp[h6]));clear hr;go_enter Tryz.func169,Tryz.ntmps169;go_wp2;go_ret;exact⟨iq HB.out.symm,hb0⟩
 have e5:(k1==1)=false:=by simpa using h5
 by_cases h8:k1=2
 ·subst h8
  by_cases h9:(t1:Int)≤1099511627776
  ·have g9:t1≤1099511627776:=by omega
   have HB:=Lib.hid (hr.trans (show _=true by simp[g1,g2,g3,g4,g9]));clear hr;go_enter Tryz.func169,Tryz.ntmps169;go_wp2;go_ret;exact⟨iq HB.out.symm,hb0⟩
  ·have g9:¬t1≤1099511627776:=by omega
   have HB:=Lib.hid (hr.trans (show _=false by simp[g9]));clear hr;go_enter Tryz.func169,Tryz.ntmps169;go_wp2;go_ret;exact⟨iq HB.out.symm,hb0⟩
 have e8:(k1==2)=false:=by simpa using h8
 have HB:=Lib.hid (hr.trans (show _=false by simp[h5,h8]));clear hr;go_enter Tryz.func169,Tryz.ntmps169;go_wp2;go_ret;exact⟨iq HB.out.symm,hb0⟩
end
section
open It
structure Nd where
 x:It
 b:Nat
 tb:Nat
 h:Nat
 c:Nat
def nxt (h:Nat) (l:List Nd):Option Nd:=l.find? fun n=>decide (h < n.h)
def nxb (h:Nat) (l:List Nd):Option Nat:=(nxt h l).map (·.b)
variable {ns:List Nd} {i h q j k:Nat} {n:Nd} {x:It}
theorem ny4 (e:nxt h (ns.drop (i+1))=some n):∃k,i < k∧ns[k]?=some n∧h < n.h∧∀m n',i < m→m < k→ns[m]?=some n'→n'.h≤h:=by
 obtain⟨h1,as1,bs,h2,h3⟩:=List.find?_eq_some_iff_append.1 e;have hg:∀m,ns[i+1+m]?=(as1++n::bs)[m]?:=fun m=>by rw[←h2,List.getElem?_drop]
 refine⟨i+1+as1.length,by omega,by rw[hg,List.getElem?_append_right (by omega)];simp,by simpa using h1,fun m n' h4 h5 h6=>?_⟩;obtain⟨d,rfl⟩:∃d,m=i+1+d:=⟨m - (i+1),by omega⟩;rw[hg,List.getElem?_append_left (by omega)]at h6;have:=h3 n' (List.mem_of_getElem? h6);simpa using this
theorem iw4 (e:nxt h (ns.drop (i+1))=none):∀m n',i < m→ns[m]?=some n'→n'.h≤h:=by
 intro m n' h4 h6;obtain⟨d,rfl⟩:∃d,m=i+1+d:=⟨m - (i+1),by omega⟩;have hm:n'∈ns.drop (i+1):=List.mem_of_getElem? (i:=d) (by rw[List.getElem?_drop];exact h6);simpa using List.find?_eq_none.1 e n' hm
structure Pred (ns:List Nd) (h q j:Nat):Prop where
 lt:j < q
 on:∃n,ns[j]?=some n∧h < n.h
 last:∀i n,j < i→i < q→ns[i]?=some n→n.h≤h
def its (ns:List Nd):List It:=(ns.drop 1).map (·.x)
theorem wy2 (k:Nat):(its ns)[k]?=(ns[k+1]?).map (·.x):=by
 unfold its;rw[List.getElem?_map,List.getElem?_drop,Nat.add_comm]
theorem yz4 (hr:bq1 (its ns)) (hk:0 < k) (e:ns[k]?=some n):less n.x x=decide (k < pos (its ns) x+1):=by
 obtain⟨m,rfl⟩:∃m,k=m+1:=⟨k - 1,by omega⟩;have hg:(its ns)[m]?=some n.x:=by rw[wy2,e];rfl
 obtain⟨h1,h2⟩:=vx1 hr x;have hm:m < (its ns).length:=(List.getElem?_eq_some_iff.1 hg).1
 cases hl:less n.x x with
 |true=>
  refine(decide_eq_true ?_).symm;apply Classical.byContradiction;intro hn;have:n.x∈(its ns).drop (pos (its ns) x):=List.mem_of_getElem? (i:=m - pos (its ns) x) (by rw[List.getElem?_drop,←hg];congr 1;omega);rw[h2]at this;have:=(List.mem_filter.1 this).2;rw[hl]at this
  cases this
 |false=>
  refine(decide_eq_false fun hn=>?_).symm;have:n.x∈(its ns).take (pos (its ns) x):=List.mem_of_getElem? (i:=m) (by rw[List.getElem?_take,if_pos (by omega),hg]);rw[h1]at this;have:=(List.mem_filter.1 this).2;rw[hl]at this
  cases this
theorem Pred.low (hp:Pred ns 0 q j) (hq:q≤ns.length) (h1:∀n∈ns,1≤n.h):j+1=q:=by
 apply Classical.byContradiction;intro hn;have hlt:=hp.lt;have hl:j+1 < ns.length:=by omega
 have:=hp.last (j+1) ns[j+1] (by omega) (by omega) (List.getElem?_eq_getElem hl);have:=h1 _ (List.getElem_mem hl);omega
theorem gj3 {A R:List Nd} (h0:∀n∈A,n.h≤h):nxb h (A++R)=nxb h R:=by
 unfold nxb nxt;rw[List.find?_append,List.find?_eq_none.2 (fun n hn=>by have:=h0 n hn;simpa using this)];simp
theorem fz4 {A R R':List Nd} (h0:∃n∈A,h < n.h):nxb h (A++R)=nxb h (A++R'):=by
 unfold nxb nxt;rw[List.find?_append,List.find?_append];obtain⟨n,hn,hh⟩:=h0
 cases e:A.find? fun n=>decide (h < n.h) with
 |none=>
  have:=List.find?_eq_none.1 e n hn;simp at this;omega
 |some m=>simp
theorem gy3 {A R:List Nd} {n n':Nd} (hb:n'.b=n.b) (hh:h < n'.h↔h < n.h):nxb h (A++n'::R)=nxb h (A++n::R):=by
 unfold nxb nxt;rw[List.find?_append,List.find?_append]
 cases e:A.find? fun n=>decide (h < n.h) with
 |none=>
  simp only[Option.none_or,List.find?_cons]
  by_cases h1:h < n.h
  ·simp[h1,hh.2 h1,hb]
  ·have h2:¬h < n'.h:=fun h=>h1 (hh.1 h)
   simp[h1,h2]
 |some m=>simp
theorem zq4 {A R:List Nd} {n:Nd} (hn:n.h=0):nxb h (A++n::R)=nxb h (A++R):=by
 unfold nxb nxt;rw[List.find?_append,List.find?_append];simp[List.find?_cons,hn]
theorem Pred.seg {A R:List Nd} (hp:Pred (A++R) h A.length j):∀m∈A.drop (j+1),m.h≤h:=by
 intro m hm;obtain⟨i,hi,rfl⟩:=List.getElem_of_mem hm;rw[List.length_drop]at hi;rw[List.getElem_drop];exact hp.last (j+1+i) _ (by omega) (by omega) (by rw[List.getElem?_append_left (by omega)];exact List.getElem?_eq_getElem (by omega))
theorem raise {A R:List Nd} {n n':Nd} (hj:Pred (A++n::R) h A.length j) (hn:n.h=h) (hn':n'.h=h+1) (hb:n'.b=n.b) (i l:Nat) (m:Nd) (hm:(A++n'::R)[i]?=some m) (hl:l < m.h):
  nxb l ((A++n'::R).drop (i+1))=if i=j∧l=h then some n.b else if i=A.length∧l=h then nxb l ((A++n::R).drop (j+1)) else nxb l ((A++n::R).drop (i+1)):=by
 rcases Nat.lt_trichotomy i A.length with h1|h1|h1
 ·have e:∀n:Nd,(A++n::R).drop (i+1)=A.drop (i+1)++n::R:=fun n=>by rw[List.drop_append_of_le_length (by omega)]
  rw[List.getElem?_append_left h1]at hm
  by_cases h2:l=h
  ·subst h2
   by_cases h3:i=j
   ·subst h3
    rw[if_pos ⟨rfl,rfl⟩,e,gj3 hj.seg];unfold nxb nxt;simp[List.find?_cons,hn',hb]
   ·rw[if_neg (by simp[h3]),if_neg (by omega),e,e]
    rcases Nat.lt_or_gt_of_ne h3 with h4|h4
    ·obtain⟨p,hp,hh⟩:=hj.on
     have:=hj.lt;rw[List.getElem?_append_left hj.lt]at hp;exact fz4 ⟨p,List.mem_of_getElem? (i:=j - (i+1)) (by rw[List.getElem?_drop,←hp];congr 1;omega),hh⟩
    ·exfalso
     have:=hj.last i m h4 h1 (by rw[List.getElem?_append_left h1];exact hm);omega
  ·rw[if_neg (by simp[h2]),if_neg (by simp[h2]),e,e]
   exact gy3 hb (by omega)
 ·subst h1
  have hlt:=hj.lt;rw[List.getElem?_append_right (Nat.le_refl _),Nat.sub_self,gE0]at hm;injection hm with hm;subst hm;have e:∀n:Nd,(A++n::R).drop (A.length+1)=R:=fun n=>by
   rw[←List.drop_drop,List.drop_left];rfl
  by_cases h2:l=h
  ·subst h2
   rw[if_neg (by omega),if_pos ⟨rfl,rfl⟩,e];have e2:(A++n::R).drop (j+1)=(A.drop (j+1)++[n])++R:=by rw[List.drop_append_of_le_length (by omega)];simp
   rw[e2,gj3];intro m hm
   rcases List.mem_append.1 hm with h3|h3
   ·exact hj.seg m h3
   ·rw[List.mem_singleton.1 h3,hn]
    exact Nat.le_refl _
  ·rw[if_neg (by simp[h2]),if_neg (by simp[h2]),e,e]
 ·have hlt:=hj.lt
  have e:∀n:Nd,(A++n::R).drop (i+1)=R.drop (i - A.length):=fun n=>by
   rw[List.drop_append,List.drop_eq_nil_of_le (by omega),List.nil_append];have:i+1 - A.length=(i - A.length)+1:=by omega
   rw[this,List.drop_succ_cons]
  rw[if_neg (by omega),if_neg (by omega),e,e]
theorem nq3 {A R:List Nd} {n:Nd} (hA:0 < A.length):its (A++n::R)=(its (A++R)).take (A.length - 1)++n.x::(its (A++R)).drop (A.length - 1):=by
 unfold its;rw[List.drop_append_of_le_length (by omega),List.drop_append_of_le_length (by omega),List.map_append,List.map_append,List.map_cons];have hl:((A.drop 1).map (·.x)).length=A.length - 1:=by simp
 rw[←hl,List.take_left,List.drop_left]
end
section
open Go Go.RowKit Go.Lib
theorem bw2 {P:Program} {f:FuncId} {fn:Func} (hf:P.funcs[f]?=some fn) (hname:(fn.name== "runtime.NumGoroutine")=false) (hb:fn.body.isNone=true) (hn:Extern.findNext fn=none)
  (he:Extern.find fn=some (Extern.Atomic.loadT .ptr)) {a:Addr} {x:Option Addr} {w:World} (hc:w.cell? a=some (.pointer x)):
  (callFunc f #[.pointer (some a)]).run P w=.ok (.value (.pointer x)) w:=by
 rw[run_callFunc_extern hf hname hb hn he];change (Sem.run P (do Extern.Atomic.read .ptr (←asAddr (.pointer (some a)))) w).andThen _=_;simp[Extern.Atomic.read,asAddr,hc,Result.andThen]
theorem vy1 {P:Program} {f:FuncId} {fn:Func} (hf:P.funcs[f]?=some fn) (hname:(fn.name== "runtime.NumGoroutine")=false) (hb:fn.body.isNone=true) (hn:Extern.findNext fn=none)
  (he:Extern.find fn=some Extern.Atomic.storeT) {a:Addr} {y:Option Addr} {u:Value} {w:World} (hc:w.cell? a=some u) (hz:w.frozen? a=false):
  (callFunc f #[.pointer (some a),.pointer y]).run P w=.ok (.value (.tuple #[])) (w.setCell a (.pointer y)):=by
 rw[run_callFunc_extern hf hname hb hn he];change (Sem.run P (do
  store (←asAddr (.pointer (some a))) (.pointer y) .atomic
  pure Extern.Atomic.none_) w).andThen _=_
 simp[asAddr,hc,hz,run_store P w a (.pointer y) .atomic rfl,Result.andThen,Extern.Atomic.none_]
theorem nx4 (w:World):(convert 295 279 (.pointer none)).run Tryz.prog w=.ok (.pointer none) w:=by
 have h1:Tryz.prog.underlying 295=some .unsafePointer:=by kernel_rfl
 have h2:Tryz.prog.underlying 279=some (.pointer 300):=by kernel_rfl
 simp[convert,Conv.unsafePointer,run_underlying h1,run_underlying h2,Result.andThen]
theorem ax4 {w:World} {b:Nat} {xs:List Value} (h:BoxO w 300 b xs) (hl:xs.length=6):(convert 295 279 (.pointer (some ⟨b,0,none⟩))).run Tryz.prog w=.ok (.pointer (some ⟨b,0,none⟩)) w:=by
 have h1:Tryz.prog.underlying 295=some .unsafePointer:=by kernel_rfl
 have h2:Tryz.prog.underlying 279=some (.pointer 300):=by kernel_rfl
 have h3:liesAt Tryz.prog Tryz.prog.depth 300 (6 / Tryz.prog.cellsOf 300) 0 300 1=true:=by kernel_rfl
 have h4:w.shape? b=some (300,6):=by
  unfold World.shape?;rw[h];simp[hl]
 simp[convert,Conv.unsafePointer,Conv.seenAt,viewAt,variablesAt,run_underlying h1,run_underlying h2,h4,h3,Result.andThen]
def mw3 (w:World):Option Addr→Prop
 |none=>True
 |some a=>∃b xs,a=⟨b,0,none⟩∧BoxO w 300 b xs∧xs.length=6
theorem yv4 {w:World} {v:Option Addr} (h:mw3 w v):(convert 295 279 (.pointer v)).run Tryz.prog w=.ok (.pointer v) w:=by
 cases v with
 |none=>exact nx4 w
 |some a=>
  obtain⟨b,xs,rfl,h1,h2⟩:=h;exact ax4 h1 h2
theorem xw4 {w:World} {v:Option Addr} (h:mw3 w v):(convert 279 295 (.pointer v)).run Tryz.prog w=.ok (.pointer v) w:=by
 have h1:Tryz.prog.underlying 295=some .unsafePointer:=by kernel_rfl
 have h2:Tryz.prog.underlying 279=some (.pointer 300):=by kernel_rfl
 cases v with
 |none=>simp[convert,Conv.unsafePointer,run_underlying h1,run_underlying h2,Result.andThen]
 |some a=>
  obtain⟨b,xs,rfl,h3,h4⟩:=h;have hc:w.cell? ⟨b,0,none⟩=some (xs[0]'(by omega)):=by rw[h3.cell];exact List.getElem?_eq_getElem _
  exact run_convert_to_unsafe (P:=Tryz.prog) h2 h1 (by kernel_rfl) hc
theorem lj1 (g j:Nat) (v:Option Addr) (w:World) (hc:w.cell? ⟨g,j,none⟩=some (.pointer v)) (hv:mw3 w v):
  Calls Tryz.prog 239 #[.pointer (some ⟨g,j,none⟩)] w fun e w'=>e=.returned (.pointer v)∧w'=w:=by
 have hld:=bw2 (P:=Tryz.prog) Tryz.func299 (by kernel_rfl) (by kernel_rfl) (by kernel_rfl) (by kernel_rfl) hc;have hcv:=yv4 hv;go_enter Tryz.func239,Tryz.ntmps239;go_wp2;go_ret;exact⟨rfl,rfl⟩
theorem xx1 (g j:Nat) (u:Value) (v:Option Addr) (w:World) (hc:w.cell? ⟨g,j,none⟩=some u) (hz:w.frozen? ⟨g,j,none⟩=false) (hv:mw3 w v):
  Calls Tryz.prog 240 #[.pointer (some ⟨g,j,none⟩),.pointer v] w fun e w'=>e=.returned (.tuple #[])∧w'=w.setCell ⟨g,j,none⟩ (.pointer v):=by
 have hst:=vy1 (P:=Tryz.prog) Tryz.func300 (by kernel_rfl) (by kernel_rfl) (by kernel_rfl) (by kernel_rfl) (y:=v) hc hz;have hcv:=xw4 hv;go_enter Tryz.func240,Tryz.ntmps240;go_wp2;exact bodyPost_end (v:=.tuple #[]) (by simp[results,go_sem]) rfl ⟨rfl,rfl⟩
end
section
open Go Go.RowKit Go.Lib
theorem ex4:(Tryz.prog.info? 297).map (fun i=>(i.zero.map (·.cells),i.size,i.bytes))=some (some #[.pointer none],1,8):=by kernel_rfl
theorem mx3 (h:Nat) (h6:h≤6):∃cs:Array Value,cs.toList=List.replicate h (.pointer none)∧∀W:World,(Instr.makeSlice 298 (.int .i64 (h:Int)) (.int .i64 (h:Int))).run Tryz.prog W=.ok (.slice (some ⟨W.heap.size,0,none⟩) h h) (W.alloc (.cells cs 297)):=by
 obtain⟨i,hi,hz⟩:=Option.map_eq_some_iff.1 ex4;simp only[Prod.mk.injEq]at hz;obtain⟨hz0,hz1,hz2⟩:=hz;obtain⟨z,hz3,hz4⟩:=Option.map_eq_some_iff.1 hz0;refine⟨madeCells #[.pointer none] h,toList_madeCells_one _ h,fun W=>?_⟩;have hr:=run_make (P:=Tryz.prog) W 298 297 i z Tryz.underlying298 hi hz3 .i64 .i64 h h (by omega) (by omega) (by rw[hz2];omega) (by omega);simpa [hz1,hz4] using hr
theorem cw4 {w W:World} {g:Nat} (hb:Below w.heap.size w W) (x:It) (h:Nat) (cs:Array Value) (hcs:cs.toList=List.replicate h (.pointer none)) (hg:W.heap.size=g):
  BoxO ((W.alloc (.cells cs 297)).alloc (.cells #[.int .i64 x.s,.int .i64 x.k,.int .u64 (x.t:Int),.int .u64 (x.v:Int),.int .i64 x.x,.slice (some ⟨g,0,none⟩) h h] 300)).drew 300 (g+1) (x.cells++[.slice (some ⟨g,0,none⟩) h h])∧
  BoxO ((W.alloc (.cells cs 297)).alloc (.cells #[.int .i64 x.s,.int .i64 x.k,.int .u64 (x.t:Int),.int .u64 (x.v:Int),.int .i64 x.x,.slice (some ⟨g,0,none⟩) h h] 300)).drew 297 g (List.replicate h (.pointer none))∧g+1≠g∧w.heap.size≤g+1∧w.heap.size≤g∧Below w.heap.size w ((W.alloc (.cells cs 297)).alloc (.cells #[.int .i64 x.s,.int .i64 x.k,.int .u64 (x.t:Int),.int .u64 (x.v:Int),.int .i64 x.x,.slice (some ⟨g,0,none⟩) h h] 300)).drew:=by
 have h1:(W.alloc (.cells cs 297)).heap.size=W.heap.size+1:=by simp
 have h2:=hb.size;have h3:BoxO (W.alloc (.cells cs 297)) 297 W.heap.size (List.replicate h (.pointer none)):=hcs▸BoxO.new W cs 297;subst hg;exact⟨by rw[←h1];exact(BoxO.new _ _ _).drew,(h3.alloc _).drew,by omega,by omega,h2,ak ((hb.alloc h2 _).alloc (by omega) _)⟩
theorem rx2 (x:It) (h:Nat) (w:World) (h1:1≤h) (h6:h≤6):
  Calls Tryz.prog 232 #[x.val,.int .i64 (h:Int)] w fun e w'=>∃b tb,e=.returned (.pointer (some ⟨b,0,none⟩))∧BoxO w' 300 b (x.cells++[.slice (some ⟨tb,0,none⟩) h h])∧BoxO w' 297 tb (List.replicate h (.pointer none))∧b≠tb∧w.heap.size≤b∧w.heap.size≤tb∧Below w.heap.size w w':=by
 obtain⟨cs,hcs,hmk⟩:=mx3 h h6;have hb1:(1:Int)≤(h:Int):=by omega
 have hb6:(h:Int)≤6:=by omega
 unfold It.val;go_enter Tryz.func232,Tryz.ntmps232;go_wp2_with fail
 go_region
 all_goals go_wp2
 all_goals go_ret
 all_goals
  have hm:=cw4 (g:=w.heap.size+1) ((Below.refl w.heap.size w).alloc (Nat.le_refl _) (.cells #[.int .i64 x.s,.int .i64 x.k,.int .u64 (x.t:Int),.int .u64 (x.v:Int),.int .i64 x.x] 36)) x h cs hcs (by simp);exact⟨_,_,rfl,hm⟩
structure SkC (w:World) (ns:List Nd):Prop where
 node:∀n∈ns,BoxO w 300 n.b (n.x.cells++[.slice (some ⟨n.tb,0,none⟩) n.c n.c])
 tower:∀(i:Nat) (n:Nd),ns[i]?=some n→∃cs,BoxO w 297 n.tb cs∧cs.length=n.c∧∀l,l < n.h→cs[l]?=some (.pointer ((nxb l (ns.drop (i+1))).map fun b=>⟨b,0,none⟩))
 cap:∀n∈ns,n.h≤n.c∧n.c≤6
 apart:(ns.flatMap fun n=>[n.b,n.tb]).Nodup
structure SkAt (w:World) (L:Nat) (ns:List Nd):Prop where
 core:SkC w ns
 head:∃hd tl,ns=hd::tl∧hd.h=6∧BoxO w 282 L [.pointer (some ⟨hd.b,0,none⟩),.int .i64 (tl.length:Int)]
 out:L∉ns.flatMap fun n=>[n.b,n.tb]
 tall:∀n∈ns,1≤n.h
 rises:bq1 (its ns)
def skF (L:Nat) (ns:List Nd):List Nat:=L::ns.flatMap fun n=>[n.b,n.tb]
def bk (ns:List Nd) (j:Nat):Nat:=((ns[j]?).map (·.b)).getD 0
def pv (ns:List Nd) (j:Nat):Value:=.pointer (some ⟨bk ns j,0,none⟩)
theorem xq3 {ns:List Nd} {j:Nat} {n:Nd} (h:ns[j]?=some n):bk ns j=n.b:=by simp[bk,h]
variable {w w':World} {L:Nat} {ns:List Nd}
theorem SkC.chg {F:List Nat} (h:SkC w ns) (c:Chg F w w') (hF:∀g∈ns.flatMap (fun n=>[n.b,n.tb]),g∉F):SkC w' ns:=
 ⟨fun n hn=>(h.node n hn).chg c (hF _ (List.mem_flatMap.2 ⟨n,hn,by simp⟩)),fun i n hi=>let ⟨cs,a,b,d⟩:=h.tower i n hi;⟨cs,a.chg c (hF _ (List.mem_flatMap.2 ⟨n,List.mem_of_getElem? hi,by simp⟩)),b,d⟩,h.cap,h.apart⟩
theorem SkAt.chg {F:List Nat} (h:SkAt w L ns) (c:Chg F w w') (hF:∀g∈skF L ns,g∉F):SkAt w' L ns:=
 ⟨h.core.chg c (fun g hg=>hF g (List.mem_cons_of_mem _ hg)),let ⟨hd,tl,a,b,d⟩:=h.head;⟨hd,tl,a,b,d.chg c (hF L List.mem_cons_self)⟩,h.out,h.tall,h.rises⟩
theorem SkAt.below (h:SkAt w L ns) (c:Below w.heap.size w w'):SkAt w' L ns:=h.chg (Chg.of_below c []) (fun _ _=>by simp)
theorem SkC.below (h:SkC w ns) (c:Below w.heap.size w w'):SkC w' ns:=h.chg (Chg.of_below c []) (fun _ _=>by simp)
theorem iz3 {l b:Nat} {r:List Nd} (h:nxb l r=some b):∃n,nxt l r=some n∧n.b=b:=by
 unfold nxb at h;exact Option.map_eq_some_iff.1 h
theorem nz4 {l:Nat} {r:List Nd} (h:nxb l r=none):nxt l r=none:=by
 unfold nxb at h;exact Option.map_eq_none_iff.1 h
theorem SkC.ptr (h:SkC w ns) (l i:Nat):mw3 w ((nxb l (ns.drop i)).map fun b=>⟨b,0,none⟩):=by
 cases e:nxb l (ns.drop i) with
 |none=>exact trivial
 |some b=>
  obtain⟨n,h1,rfl⟩:=iz3 e;have hm:n∈ns:=List.mem_of_mem_drop (List.mem_of_find?_eq_some h1);exact⟨_,_,rfl,h.node n hm,rfl⟩
theorem SkC.look (h:SkC w ns) {i l:Nat} {n:Nd} (hi:ns[i]?=some n) (hl:l < n.h):
  w.cell? ⟨n.b,5,none⟩=some (.slice (some ⟨n.tb,0,none⟩) n.c n.c)∧(w.cell? ⟨n.tb,l,none⟩=some (.pointer ((nxb l (ns.drop (i+1))).map fun b=>⟨b,0,none⟩))∧w.frozen? ⟨n.tb,l,none⟩=false)∧l < n.c∧n.c≤6:=by
 have hm:=List.mem_of_getElem? hi;obtain⟨cs,h1,h2,h3⟩:=h.tower i n hi;have h4:=h.cap n hm;refine⟨by rw[(h.node n hm).cell];rfl,⟨by rw[h1.cell];exact h3 l hl,h1.free l⟩,by omega,h4.2⟩
def rk (ns:List Nd):Value→Nat
 |.pointer (some a)=>ns.length - ns.findIdx (fun n=>n.b==a.block)
 |_=>0
theorem SkC.inj (h:SkC w ns) {i j:Nat} {n m:Nd} (hi:ns[i]?=some n) (hj:ns[j]?=some m) (hb:n.b=m.b):i=j:=by
 have key:∀(ns:List Nd) (i j:Nat) (n m:Nd),(ns.flatMap fun n=>[n.b,n.tb]).Nodup→ns[i]?=some n→ns[j]?=some m→n.b=m.b→i=j:=by
  intro ns
  induction ns with
  |nil=>intro i j n m _ hi;simp at hi
  |cons a r ih=>
   intro i j n m hd hi hj hb;simp only[List.flatMap_cons,List.cons_append,List.nil_append,List.nodup_cons,List.mem_cons,not_or]at hd;obtain⟨⟨_,h2⟩,_,h4⟩:=hd;have hin:∀(k:Nat) (u:Nd),r[k]?=some u→u.b≠a.b:=fun k u hu e=>h2 (List.mem_flatMap.2 ⟨u,List.mem_of_getElem? hu,by simp[e]⟩)
   cases i with
   |zero=>
    cases j with
    |zero=>rfl
    |succ j=>
     simp only[gE0,Option.some.injEq,gE1]at hi hj;subst hi;exact absurd hb.symm (hin j m hj)
   |succ i=>
    cases j with
    |zero=>
     simp only[gE0,Option.some.injEq,gE1]at hi hj;subst hj;exact absurd hb (hin i n hi)
    |succ j=>
     simp only[gE1]at hi hj;rw[ih i j n m h4 hi hj hb]
 exact key ns i j n m h.apart hi hj hb
theorem SkC.rk (h:SkC w ns) {i:Nat} {n:Nd} (hi:ns[i]?=some n):rk ns (.pointer (some ⟨n.b,0,none⟩))=ns.length - i:=by
 unfold Go.Proofs.YthjdpplgfdihoaaGreatDoor.rk;have hl:i < ns.length:=(List.getElem?_eq_some_iff.1 hi).1;have h1:ns.findIdx (fun m=>m.b==n.b) < ns.length:=List.findIdx_lt_length_of_exists ⟨n,List.mem_of_getElem? hi,by simp⟩;have h2:(ns[ns.findIdx (fun m=>m.b==n.b)]).b=n.b:=by
  have:=List.findIdx_getElem (w:=h1);simpa using this
 have:=h.inj (List.getElem?_eq_getElem h1) hi h2;simp only;omega
end
end Go.Proofs.YthjdpplgfdihoaaGreatDoor
