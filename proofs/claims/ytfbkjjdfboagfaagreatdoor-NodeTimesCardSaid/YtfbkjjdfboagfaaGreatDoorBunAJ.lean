/- Some of the texts. No conditions. -/
import Derived.Test.YtfbkjjdfboagfaaGreatDoorBunAD
import Derived.Test.YtfbkjjdfboagfaaGreatDoorBunAF
import Derived.Test.YtfbkjjdfboagfaaGreatDoorBunAC
import Derived.Lib.SmallJoins

set_option linter.unusedSimpArgs false
set_option linter.unusedVariables false
set_option maxRecDepth 100000
set_option maxHeartbeats 16000000
namespace Go.Proofs.YtfbkjjdfboagfaaGreatDoor
open Go.Proofs.Tryz Go Go.RowKit Go.Lib Go.Shelf
theorem nq2 {P:Program} {f:FuncId} {fn:Func} (z:P.funcs[f]?=some fn) (o:(fn.name== "runtime.NumGoroutine")=false) (C:fn.body.isNone=true) (E:Extern.findNext fn=none)
  (H:Extern.find fn=some (Extern.Atomic.loadT .ptr)) {a:Addr} {x:Option Addr} {w:World} (I:w.cell? a=some (.pointer x)):
  (callFunc f #[.pointer (some a)]).run P w=.ok (.value (.pointer x)) w:=by
 rw[run_callFunc_extern z o C E H];change (Sem.run P (do Extern.Atomic.read .ptr (<-asAddr (.pointer (some a)))) w).andThen _=_;simp[Extern.Atomic.read,asAddr,I,Result.andThen]
theorem dj2 {P:Program} {f:FuncId} {fn:Func} (z:P.funcs[f]?=some fn) (o:(fn.name== "runtime.NumGoroutine")=false) (C:fn.body.isNone=true) (E:Extern.findNext fn=none)
  (H:Extern.find fn=some Extern.Atomic.storeT) {a:Addr} {y:Option Addr} {u:Value} {w:World} (I:w.cell? a=some u) (J:w.frozen? a=false):
  (callFunc f #[.pointer (some a),.pointer y]).run P w=.ok (.value (.tuple #[])) (w.setCell a (.pointer y)):=by
 rw[run_callFunc_extern z o C E H];change (Sem.run P (do
  store (<-asAddr (.pointer (some a))) (.pointer y) .atomic
  pure Extern.Atomic.none_) w).andThen _=_
 simp[asAddr,I,J,run_store P w a (.pointer y) .atomic rfl,Result.andThen,Extern.Atomic.none_]
theorem cv5 (w:World):(convert 237 218 (.pointer none)).run prog w=.ok (.pointer none) w:=by
 have h1:prog.underlying 237=some .unsafePointer:=by kernel_rfl
 have h2:prog.underlying 218=some (.pointer 242):=by kernel_rfl
 simp[convert,Conv.unsafePointer,run_underlying h1,run_underlying h2,Result.andThen]
theorem rx4 {w:World} {b:Nat} {xs:List Value} (h:BoxO w 242 b xs) (o:xs.length=6):(convert 237 218 (.pointer (some b))).run prog w=.ok (.pointer (some b)) w:=by
 have h1:prog.underlying 237=some .unsafePointer:=by kernel_rfl
 have h2:prog.underlying 218=some (.pointer 242):=by kernel_rfl
 have h3:liesAt prog prog.depth 242 (6 / prog.cellsOf 242) 0 242 1=true:=by kernel_rfl
 have h4:w.shape? b=some (242,6):=by
  unfold World.shape?;rw[h];simp[o]
 simp[convert,Conv.unsafePointer,Conv.seenAt,viewAt,variablesAt,run_underlying h1,run_underlying h2,h4,h3,Result.andThen]
def gq4 (w:World):Option Addr->Prop
 |none=>True
 |some a=>∃b xs,a=⟨b,0,none⟩/\BoxO w 242 b xs/\xs.length=6
theorem xk5 {w:World} {v:Option Addr} (h:gq4 w v):(convert 237 218 (.pointer v)).run prog w=.ok (.pointer v) w:=by
 cases v with
 |none=>exact cv5 w
 |some a=>
  obtain⟨b,xs,rfl,h1,h2⟩:=h;exact rx4 h1 h2
theorem xq5 {w:World} {v:Option Addr} (h:gq4 w v):(convert 218 237 (.pointer v)).run prog w=.ok (.pointer v) w:=by
 have h1:prog.underlying 237=some .unsafePointer:=by kernel_rfl
 have h2:prog.underlying 218=some (.pointer 242):=by kernel_rfl
 cases v with
 |none=>simp[convert,Conv.unsafePointer,run_underlying h1,run_underlying h2,Result.andThen]
 |some a=>
  obtain⟨b,xs,rfl,h3,h4⟩:=h;have o:w.cell? b=some (xs[0]'o_):=by rw[h3.cell];exact j_ _
  exact run_convert_to_unsafe (P:=prog) h2 h1 (by kernel_rfl) o
theorem gq1 (g j:Nat) (v:Option Addr) (w:World) (o:w.cell? (g,j)=some (.pointer v)) (z:gq4 w v):
  Calls prog 162 #[.pointer (some ⟨g,j,none⟩)] w fun e w'=>e=.returned (.pointer v)/\w'=w:=by
 have C:=nq2 (P:=prog) func220 (by kernel_rfl) (by kernel_rfl) (by kernel_rfl) (by kernel_rfl) o;have E:=xk5 z;go_enter func162,ntmps162;go_wp2;go_ret;exact⟨rfl,rfl⟩
theorem fk2 (g j:Nat) (u:Value) (v:Option Addr) (w:World) (o:w.cell? (g,j)=some u) (z:w.frozen? (g,j)=false) (C:gq4 w v):
  Calls prog 163 #[.pointer (some ⟨g,j,none⟩),.pointer v] w fun e w'=>e=.returned (.tuple #[])/\w'=w.setCell (g,j) (.pointer v):=by
 have E:=dj2 (P:=prog) func221 (by kernel_rfl) (by kernel_rfl) (by kernel_rfl) (by kernel_rfl) (y:=v) o z;have H:=xq5 C;go_enter func163,ntmps163;go_wp2;exact bodyPost_end (v:=.tuple #[]) (by simp[results,go_sem]) rfl ⟨rfl,rfl⟩
theorem ex5:(prog.info? 239).map (fun i=>(i.zero.map (·.cells),i.size,i.bytes))=some (some #[.pointer none],1,8):=by kernel_rfl
theorem eq4 (h:Nat) (Q:h<=6):∃cs:Array Value,cs.toList=List.replicate h (.pointer none)/\∀W:World,(Instr.makeSlice 240 (.int .i64 h) (.int .i64 h)).run prog W=.ok (.slice (some (W:Nat)) h h) (W.alloc (.cells cs 239)):=by
 obtain⟨i,hi,J⟩:=b4_.1 ex5;simp only[bb_]at J;obtain⟨o,C,E⟩:=J;obtain⟨z,H,I⟩:=b4_.1 o;refine⟨madeCells #[.pointer none] h,toList_madeCells_one _ h,fun W=>?_⟩;have O:=run_make (P:=prog) W 240 239 i z underlying240 hi H .i64 .i64 h h o_ o_ (by rw[E];omega) o_;simpa [C,I] using O
theorem zk4 {w W:World} {g:Nat} (z:Below w w W) (x:It) (h:Nat) (cs:Array Value) (o:cs.toList=List.replicate h (.pointer none)) (C:(W:Nat)=g):
  BoxO ((W.alloc (.cells cs 239)).alloc (.cells #[x.s,x.k,[x.t],[x.v],x.x,.slice (some g) h h] 242)).drew 242 (g+1) (x.cells++[.slice (some g) h h])/\
  BoxO ((W.alloc (.cells cs 239)).alloc (.cells #[x.s,x.k,[x.t],[x.v],x.x,.slice (some g) h h] 242)).drew 239 g (List.replicate h (.pointer none))/\g+1≠g/\(w:Nat)<=g+1/\(w:Nat)<=g/\Below w w ((W.alloc (.cells cs 239)).alloc (.cells #[x.s,x.k,[x.t],[x.v],x.x,.slice (some g) h h] 242)).drew:=by
 have h1:(W.alloc (.cells cs 239)).heap.size=(W:Nat)+1:=by simp
 have h2:=z.size;have h3:BoxO (W.alloc (.cells cs 239)) 239 (W:Nat) (List.replicate h (.pointer none)):=o▸BoxO.new W cs 239;subst C;exact⟨by rw[<-h1];exact(BoxO.new _ _ _).drew,(h3.alloc _).drew,o_,o_,h2,ax ((z.alloc h2 _).alloc o_ _)⟩
theorem aw3 (x:It) (h:Nat) (w:World) (h1:1<=h) (z:h<=6):
  Calls prog 154 #[x.val,(h:Int)] w fun e w'=>∃b tb,e=.returned (.pointer (some ⟨b,0,none⟩))/\BoxO w' 242 b (x.cells++[.slice (some ⟨tb,0,none⟩) h h])/\BoxO w' 239 tb (List.replicate h (.pointer none))/\b≠tb/\(w:Nat)<=b/\(w:Nat)<=tb/\Below w w w':=by
 obtain⟨cs,o,C⟩:=eq4 h z;have E:(1:Int)<=(h:Int):=o_
 have H:(h:Int)<=6:=o_
 unfold It.val;go_enter func154,ntmps154;go_wp2_with fail
 go_region
 all_goals go_wp2
 all_goals go_ret
 all_goals
  have I:=zk4 (g:=(w:Nat)+1) (b_ w (.cells #[x.s,x.k,[x.t],[x.v],x.x] 33)) x h cs o s_;exact⟨_,_,rfl,I⟩
structure SkC (w:World) (ns:List Nd):Prop where
 node:∀n∈ns,BoxO w 242 n.b (n.x.cells++[.slice (some n.tb) n.c n.c])
 tower:∀(i:Nat) (n:Nd),ns[i]?=some n->∃cs,BoxO w 239 n.tb cs/\cs.length=n.c/\∀l,l < n.h->cs[l]?=some (.pointer ((nxb l (ns.drop (i+1))).map fun b=>⟨b,0,none⟩))
 cap:∀n∈ns,n.h<=n.c/\n.c<=6
 apart:(ns.flatMap fun n=>[n.b,n.tb]).Nodup
structure SkAt (w:World) (L:Nat) (ns:List Nd):Prop where
 core:SkC w ns
 head:∃hd tl,ns=hd::tl/\hd.h=6/\BoxO w 221 L [.pointer (some hd.b),.int .i64 tl.length]
 out:L∉ns.flatMap fun n=>[n.b,n.tb]
 tall:∀n∈ns,1<=n.h
 rises:yj (its ns)
def skF (L:Nat) (ns:List Nd):List Nat:=L::ns.flatMap fun n=>[n.b,n.tb]
def bk (ns:List Nd) (j:Nat):Nat:=((ns[j]?).map (·.b)).getD 0
def pv (ns:List Nd) (j:Nat):Value:=.pointer (some ⟨bk ns j,0,none⟩)
theorem zz4 {ns:List Nd} {j:Nat} {n:Nd} (h:ns[j]?=some n):bk ns j=n.b:=by simp[bk,h]
variable {w w':World} {L:Nat} {ns:List Nd}
theorem SkC.chg {F:List Nat} (h:SkC w ns) (c:Chg F w w') (hF:∀g∈ns.flatMap (fun n=>[n.b,n.tb]),g∉F):SkC w' ns:=
 ⟨fun n o=>(h.node n o).chg c (hF _ (W_.2 ⟨n,o,by simp⟩)),fun i n hi=>let ⟨cs,a,b,d⟩:=h.tower i n hi;⟨cs,a.chg c (hF _ (W_.2 ⟨n,u_ hi,by simp⟩)),b,d⟩,h.cap,h.apart⟩
theorem SkAt.chg {F:List Nat} (h:SkAt w L ns) (c:Chg F w w') (hF:∀g∈skF L ns,g∉F):SkAt w' L ns:=
 ⟨h.core.chg c (fun g o=>hF g (f_ _ o)),let ⟨hd,tl,a,b,d⟩:=h.head;⟨hd,tl,a,b,d.chg c (hF L p_)⟩,h.out,h.tall,h.rises⟩
theorem SkAt.below (h:SkAt w L ns) (c:Below w w w'):SkAt w' L ns:=h.chg (Chg.of_below c []) (fun _ _=>by simp)
theorem SkC.below (h:SkC w ns) (c:Below w w w'):SkC w' ns:=h.chg (Chg.of_below c []) (fun _ _=>by simp)
theorem vy3 {l b:Nat} {r:List Nd} (h:nxb l r=some b):∃n,nxt l r=some n/\n.b=b:=by
 unfold nxb at h;exact b4_.1 h
theorem cw5 {l:Nat} {r:List Nd} (h:nxb l r=none):nxt l r=none:=by
 unfold nxb at h;exact Option.map_eq_none_iff.1 h
theorem SkC.ptr (h:SkC w ns) (l i:Nat):gq4 w ((nxb l (ns.drop i)).map fun b=>⟨b,0,none⟩):=by
 cases e:nxb l (ns.drop i) with
 |none=>exact trivial
 |some b=>
  obtain⟨n,h1,rfl⟩:=vy3 e;have o:n∈ns:=cd_ (cr_ h1);exact⟨_,_,rfl,h.node n o,rfl⟩
theorem SkC.look (h:SkC w ns) {i l:Nat} {n:Nd} (hi:ns[i]?=some n) (z:l < n.h):
  w.cell? (n.b,5)=some (.slice (some n.tb) n.c n.c)/\(w.cell? (n.tb,l)=some (.pointer ((nxb l (ns.drop (i+1))).map fun b=>⟨b,0,none⟩))/\w.frozen? (n.tb,l)=false)/\l < n.c/\n.c<=6:=by
 have o:=u_ hi;obtain⟨cs,h1,h2,h3⟩:=h.tower i n hi;have h4:=h.cap n o;refine⟨by rw[(h.node n o).cell];rfl,⟨by rw[h1.cell];exact h3 l z,h1.free l⟩,o_,h4.2⟩
def rk (ns:List Nd):Value->Nat
 |.pointer (some a)=>ns.length - ns.findIdx (fun n=>n.b==a.block)
 |_=>0
theorem SkC.inj (h:SkC w ns) {i j:Nat} {n m:Nd} (hi:ns[i]?=some n) (hj:ns[j]?=some m) (o:n.b=m.b):i=j:=by
 have key:∀(ns:List Nd) (i j:Nat) (n m:Nd),(ns.flatMap fun n=>[n.b,n.tb]).Nodup->ns[i]?=some n->ns[j]?=some m->n.b=m.b->i=j:=by
  intro ns
  induction ns with
  |nil=>intro i j n m _ hi;simp at hi
  |cons a r C=>
   intro i j n m hd hi hj o;simp only[P_,U_,D_,bk_,h_,not_or]at hd;obtain⟨⟨_,h2⟩,_,h4⟩:=hd;have z:∀(k:Nat) (u:Nd),r[k]?=some u->u.b≠a.b:=fun k u E e=>h2 (W_.2 ⟨u,u_ E,by simp[e]⟩)
   cases i with
   |zero=>
    cases j with
    |zero=>rfl
    |succ j=>
     simp only[gE0,aD_,gE1]at hi hj;subst hi;exact absurd o.symm (z j m hj)
   |succ i=>
    cases j with
    |zero=>
     simp only[gE0,aD_,gE1]at hi hj;subst hj;exact absurd o (z i n hi)
    |succ j=>
     simp only[gE1]at hi hj;rw[C i j n m h4 hi hj o]
 exact key ns i j n m h.apart hi hj o
theorem SkC.rk (h:SkC w ns) {i:Nat} {n:Nd} (hi:ns[i]?=some n):rk ns (.pointer (some n.b))=ns.length - i:=by
 unfold Go.Proofs.YtfbkjjdfboagfaaGreatDoor.rk;have o:i < ns.length:=(C_.1 hi).1;have h1:ns.findIdx (fun m=>m.b==n.b) < ns.length:=List.findIdx_lt_length_of_exists ⟨n,u_ hi,by simp⟩;have h2:(ns[ns.findIdx (fun m=>m.b==n.b)]).b=n.b:=by
  have:=bG_ (w:=h1);simpa using this
 have:=h.inj (j_ h1) hi h2;simp only;omega
section
namespace Sd
variable {d:Sd}
theorem iz1 (d:Sd) (s:List UInt8):(d.create s).1.load<=d.load+2:=by
 have h:=dz1 d [s];obtain⟨o,z,C,E,_⟩:=ny d [s];unfold create
 dsimp only
 split
 ·omega
 ·split
  ·exact g_ (a4_ h) (aq_ _ _)
  ·split
   ·exact g_ (a4_ h) (aq_ _ _)
   ·simp only[load,e_,ax_]
    omega
theorem bj1 (d:Sd) (s b:List UInt8):(d.append s b).1.load=d.load:=by
 have h:=dz1 d [s];obtain⟨z,C,E,o,_⟩:=ny d [s];unfold append
 dsimp only
 split
 ·exact h
 ·split
  ·exact h
  ·split
   ·exact h
   ·split
    ·exact h
    ·simp[load,o]
theorem cw1 (d:Sd) (s:List UInt8):(d.sync s).1.load=d.load:=by
 have h:=dz1 d [s];obtain⟨z,C,E,o,_⟩:=ny d [s];unfold sync
 dsimp only
 split
 ·exact h
 ·split
  ·exact h
  ·simp[load,o]
theorem jq2 (d:Sd) (a b:List UInt8):(d.rename a b).1.load<=d.load+1:=by
 have h:=dz1 d [a,b];obtain⟨z,C,o,E,_⟩:=ny d [a,b];unfold rename
 dsimp only
 split
 ·omega
 ·split
  ·exact g_ (a4_ h) (aq_ _ _)
  ·split
   ·exact g_ (a4_ h) (aq_ _ _)
   ·simp only[load,e_,ax_,o]
    omega
theorem bz1 (d:Sd) (s:List UInt8):(d.remove s).1.load<=d.load+1:=by
 have h:=dz1 d [s];obtain⟨z,C,o,E,_⟩:=ny d [s];unfold remove
 dsimp only
 split
 ·omega
 ·split
  ·exact g_ (a4_ h) (aq_ _ _)
  ·simp only[load,e_,ax_,o]
   omega
theorem cz1 (d:Sd):(d.ak).1.load<=d.load:=by
 have h:=dz1 d [];obtain⟨z,C,o,E,_⟩:=ny d [];unfold ak
 dsimp only
 split
 ·omega
 ·simp[load,o]
def write (d:Sd) (s b:List UInt8):Sd×Nat:=
 if (d.create s).2≠0 then d.create s
 else if ((d.create s).1.append s b).2≠0 then (d.create s).1.append s b
 else ((d.create s).1.append s b).1.sync s
theorem Wf.write {d:Sd} (h:d.Wf) (s b:List UInt8):(d.write s b).1.Wf:=by
 unfold Sd.write;split
 ·exact h.create s
 ·split
  ·exact(h.create s).append s b
  ·exact((h.create s).append s b).sync s
theorem cq1 (d:Sd) (s b:List UInt8):(d.write s b).1.load<=d.load+2:=by
 have h1:=iz1 d s;have h2:=bj1 (d.create s).1 s b;have h3:=cw1 ((d.create s).1.append s b).1 s;unfold write;split
 ·omega
 ·split
  ·omega
  ·omega
end Sd
structure Ms where
 name:List UInt8
 v:Bv
 count:Nat
 broken:Bool
namespace Mn
def greatest (l:List (List UInt8)) (kind:List UInt8):Int:=l.foldl (fun m s=>max m ((number s kind).getD 0)) 0
theorem yq2 {l:List (List UInt8)} {k:Nat} (h:k < l.length) (kind:List UInt8):greatest (l.take (k+1)) kind=max (greatest (l.take k) kind) ((number l[k] kind).getD 0):=by
 unfold greatest;rw[v_ h,aS_];rfl
theorem gx2 {s kind:List UInt8} {v:Int} (h:number s kind=some v) (z:s≠[]):1<=v/\v<=1073741824:=by
 have h1:=tz3 h
 by_cases o:(fits v&&isKind kind)=true
 ·simp[fits]at o;omega
 ·rw[name,if_neg o]at h1;exact absurd h1.symm z
end Mn
namespace Mw
open Mn
def kCur:List UInt8:=[99,117,114,114,101,110,116]
def gy:List UInt8:=[99,117,114,114,101,110,116,46,116,109,112]
def headB (n:Int):List UInt8:=Fr.put 8 (Pn.put n.toNat)
def sweep (nm:List UInt8):List (List UInt8)->Sd->Sd
 |[],d=>d
 |o::r,d=>sweep nm r (if (number o kMan).isSome&&!(o==nm) then (d.remove o).1 else d)
end Mw
theorem SkAt.lt {w:World} {L:Nat} {ns:List Nd} (h:SkAt w L ns):∀g∈skF L ns,g < (w:Nat):=by
 intro g o
 rcases h_.1 o with rfl|o
 ·obtain⟨_,_,_,_,C⟩:=h.head
  exact C.lt
 ·obtain⟨n,z,o⟩:=W_.1 o
  simp only[h_,ar_,or_false]at o
  rcases o with rfl|rfl
  ·exact(h.core.node n z).lt
  ·obtain⟨i,hi⟩:=a9_.1 z
   obtain⟨cs,h1,_⟩:=h.core.tower i n hi;exact h1.lt
def oc (ns:List Nd) (J:Nat->Nat) (k:Nat):List Value:=(List.range 6).map fun l=>if k<=l then pv ns (J l) else .pointer none
theorem qj5 (ns:List Nd) (J:Nat->Nat) (k i:Nat) (o:k < 6):(oc ns J (k+1)).set k (pv ns i)=oc ns (fun l=>if l=k then i else J l) k:=by
 have e:k=0\/k=1\/k=2\/k=3\/k=4\/k=5:=o_
 rcases e with rfl|rfl|rfl|rfl|rfl|rfl<;>simp[oc,List.range,List.range.loop]
theorem zj5 {w:World} {g j k:Nat} {ns:List Nd} {J:Nat->Nat} (h:BoxO w 234 g (oc ns J k)) (hj:j < 6):∃u,w.cell? (g,j)=some u:=by
 rw[h.cell];exact⟨_,j_ (by simpa [oc] using hj)⟩
theorem kz0 {P S a oi v} (h:Hv P S a oi v:=by intro w o;skip;go_simp;try (with_reducible rfl)):Hv P S a oi v:=h
theorem kz1 {P S a oi v} (h:Hv P S a oi v:=by intro w o;(obtain⟨⟨y0,y1,y2,y3,y4⟩,x0,x1,x2,x3,x4⟩:=KC.out w o);go_simp;try (with_reducible rfl)):Hv P S a oi v:=h
theorem ey4 (L q:Nat) (ns:List Nd) (x:It) (w:World) (h:SkAt w L ns) (hq:q=pos (its ns) x+1):
  Calls prog 161 #[L,x.val] w fun e w'=>∃J:Nat->Nat,(∀l,l < 6->Pred ns l q (J l))/\e=.returned (.agg #[pv ns (J 0),pv ns (J 1),pv ns (J 2),pv ns (J 3),pv ns (J 4),pv ns (J 5)])/\Below w w w':=by
 have d':=h.lt;have hW:=((b_ w (.cells #[x.s,x.k,[x.t],[x.v],x.x] 33)).alloc s_ (.cells #[.pointer none,.pointer none,.pointer none,.pointer none,.pointer none,.pointer none] 234)).alloc (by simp;omega) (.cells #[.pointer none,.pointer none,.pointer none,.pointer none,.pointer none,.pointer none] 234);have d1:=h.below hW;have a4:BoxO (((w.alloc (.cells #[x.s,x.k,[x.t],[x.v],x.x] 33)).alloc (.cells #[.pointer none,.pointer none,.pointer none,.pointer none,.pointer none,.pointer none] 234)).alloc (.cells #[.pointer none,.pointer none,.pointer none,.pointer none,.pointer none,.pointer none] 234)) 33 (w:Nat) x.cells:=((BoxO.new w #[x.s,x.k,[x.t],[x.v],x.x] 33).alloc _).alloc _;have e3:BoxO (((w.alloc (.cells #[x.s,x.k,[x.t],[x.v],x.x] 33)).alloc (.cells #[.pointer none,.pointer none,.pointer none,.pointer none,.pointer none,.pointer none] 234)).alloc (.cells #[.pointer none,.pointer none,.pointer none,.pointer none,.pointer none,.pointer none] 234)) 234 ((w:Nat)+1) (oc ns (fun _=>0) 6):=by
  have:=(BoxO.new (w.alloc (.cells #[x.s,x.k,[x.t],[x.v],x.x] 33)) #[.pointer none,.pointer none,.pointer none,.pointer none,.pointer none,.pointer none] 234).alloc (.cells #[.pointer none,.pointer none,.pointer none,.pointer none,.pointer none,.pointer none] 234);simpa [oc,List.range,List.range.loop] using this
 have e4:BoxO (((w.alloc (.cells #[x.s,x.k,[x.t],[x.v],x.x] 33)).alloc (.cells #[.pointer none,.pointer none,.pointer none,.pointer none,.pointer none,.pointer none] 234)).alloc (.cells #[.pointer none,.pointer none,.pointer none,.pointer none,.pointer none,.pointer none] 234)) 234 ((w:Nat)+2) (oc ns (fun _=>0) 6):=by
  have:=BoxO.new ((w.alloc (.cells #[x.s,x.k,[x.t],[x.v],x.x] 33)).alloc (.cells #[.pointer none,.pointer none,.pointer none,.pointer none,.pointer none,.pointer none] 234)) #[.pointer none,.pointer none,.pointer none,.pointer none,.pointer none,.pointer none] 234;simpa [oc,List.range,List.range.loop] using this
 obtain⟨hd,tl,b7,h6,hL⟩:=d1.head;have l0:=hL.c0;have e0:Value.pointer (some hd.b)=pv ns 0:=by unfold pv;rw[zz4 (ns:=ns) (j:=0) (n:=hd) (by rw[b7];rfl)]
 have j7:q<=ns.length:=by
  have h1:=dy3 (its ns) x;have h2:(its ns).length+1=ns.length:=by rw[b7];simp[its]
  omega
 have z:=fun(k:Nat) (n:Nd) (hk:0 < k) (e:ns[k]?=some n)=>uv5 (x:=x) h.rises hk e;obtain⟨gs,e5⟩:=n_ (w:Nat);have e6:∀g∈skF L ns,g∉[gs+2]:=fun g O=>by have:=d' g O;simp;omega
 have b8:=H_ d1;have e7:=H_ e6;have HW:=H_ hW;have h':=H_ a4;have i0:=H_ e4;have i1:=H_ z;have j':=H_ e0;have i3:=H_ h6;have i4:=H_ b7;have HQ:=H_ hq;have e9:=H_ e5;have i5:=H_ e3;clear d1 e6 hW a4 e3 e4 z e0 h6 b7 hq e5 d' h hL;unfold It.val;go_enter func161,ntmps161;go_wp2_with fail;generalize hV:(((w.alloc (.cells #[x.s,x.k,[x.t],[x.v],x.x] 33)).alloc (.cells #[.pointer none,.pointer none,.pointer none,.pointer none,.pointer none,.pointer none] 234)).alloc (.cells #[.pointer none,.pointer none,.pointer none,.pointer none,.pointer none,.pointer none] 234))=V at *;clear hV l0
 go_loopw [6,7] (fun at_ hI wr=>∃(k i:Nat) (n:Nd) (J:Nat->Nat),hI=.int .i64 ((k:Int) - 1)/\at_=.pointer (some n.b)/\Hid (k<=6/\ns[i]?=some n/\k<=n.h/\i < q/\∀l,k<=l->l < 6->Pred ns l q (J l))/\Hid (BoxO wr 234 ((w:Nat)+2) (oc ns J k))/\Chg [(w:Nat)+2] V wr) (fun _ hI _=>(intOf hI+1).toNat)
 case atStart=>exact⟨6,0,hd,fun _=>0,rfl,rfl,H_ ⟨B_ _,by rw[i4.out];rfl,by rw[i3.out];exact B_ _,by rw[HQ.out];omega,fun l h1 h2=>absurd h2 o_⟩,i0,Chg.refl _ _⟩
 case round=>
  obtain⟨k,i,n,J,rfl,rfl,HK,HB,hc⟩:=hrel
  cases k with
  |zero=>
   have k1:((0:Int)<=((0:Nat):Int) - 1)=False:=eq_false o_;have g5:=HB.out;have Q:=i5.chg hc s_;have o0:=g5.cell 0;have o1:=g5.cell 1;have o2:=g5.cell 2;have o3:=g5.cell 3;have o4:=g5.cell 4;have o5:=g5.cell 5;have r0:=Q.cell 0;have r1:=Q.cell 1;have r2:=Q.cell 2;have r3:=Q.cell 3;have r4:=Q.cell 4;have r5:=Q.cell 5;have f0:=Q.free 0;have f1:=Q.free 1;have f2:=Q.free 2;have f3:=Q.free 3;have f4:=Q.free 4;have f5:=Q.free 5;simp[oc,pv,List.range,List.range.loop]at o0 o1 o2 o3 o4 o5 r0 r1 r2 r3 r4 r5;have HC:=H_ (show Chg [(w:Nat)+1,(w:Nat)+2] w wr from (Chg.of_below HW.out _).trans (hc.mono (G:=[(w:Nat)+1,(w:Nat)+2]) (fun g O=>.inl (by rw[c_.1 O];simp))) (fun g O=>.inl O));clear Q g5 hc HB;go_wp2;refine bodyPost_ret (v:=.agg #[pv ns (J 0),pv ns (J 1),pv ns (J 2),pv ns (J 3),pv ns (J 4),pv ns (J 5)]) (by simp[results,go_sem,pv, *]) rfl ⟨J,fun l hl=>HK.2.2.2.2 l z_ hl,rfl,?_⟩;exact((((((HC.setCell _ (.inl s_)).setCell _ (.inl s_)).setCell _ (.inl s_)).setCell _ (.inl s_)).setCell _ (.inl s_)).setCell _ (.inl s_)).below l_ (fun g O=>by simp at O;omega)
  |succ j=>
   have i6:(((j+1:Nat):Int) - 1)=(j:Int):=o_
   rw[i6];have l6:(0:Int)<=(j:Int):=o_
   have l7:IntKind.i64.wrap (j:Int)=(j:Int):=M_ _ (by have:=HK.1;omega);have H:=b8.chg hc (fun g O=>by have:=e7.out g O;rwa [e9.out]at this);obtain⟨n5,⟨nl,nf⟩,nc,f6⟩:=H.core.look (l:=j) HK.2.1 (by have:=HK.2.2.1;omega);have f7:(j:Int) < (n.c:Int):=o_
   have a9:=gq1 n.tb j _ wr nl (H.core.ptr j (i+1));have a':=H_ a9;have b9:=H_ H;clear a9 H nl nf;go_wp2_with fail;refine a'.mono ?_;rintro e w1 ⟨rfl,rfl⟩;clear a';go_wp2_with fail;generalize f8:nxb j (ns.drop (i+1))=be;have f9:=H_ f8;clear f8
   go_loopw [6,8] (fun d3 nx w2=>∃(i2:Nat) (U:Nd) (b2:Option Nat),d3=.pointer (some U.b)/\nx=.pointer (b2.map fun b=>⟨b,0,none⟩)/\Hid (nxb j (ns.drop (i2+1))=b2/\ns[i2]?=some U/\j < U.h/\i2 < q)/\Hid (BoxO w2 234 ((w:Nat)+2) (oc ns J (j+1)))/\Chg [(w:Nat)+2] V w2) (fun d3 _ _=>rk ns d3)
   case atStart=>exact⟨i,n,be,rfl,rfl,H_ ⟨f9,HK.2.1,by have:=HK.2.2.1;omega,HK.2.2.2.1⟩,HB,hc⟩
   case round=>
    clear HB b9 hc f9 n5 f7 nc f6;obtain⟨i2,U,b2,rfl,rfl,C,HB,hc⟩:=hrel;have H:=b8.chg hc (fun g O=>by have:=e7.out g O;rwa [e9.out]at this);have a4:=h'.chg hc s_
    cases b2 with
    |none=>
     simp only[cH_];go_wp2_with fail;refine w_h wr fun o=>?_;refine w_v 0 o ?_ (k:=kz0);go_simp;refine w_v 1 o ?_ (k:=kz0);go_simp;refine w_v 2 o ?_ (k:=kz0);go_simp;refine wpT0 (i:=3) o ?_;go_simp;refine wpT0 (i:=4) o ?_;go_simp;refine wpT0 (i:=5) o ?_;go_simp;refine wpT0 (i:=6) o ?_;go_simp;refine wpT0 (i:=7) o ?_;go_simp;refine wpT0 (i:=8) o ?_;go_simp;refine w_v 9 o ?_ (k:=kz0);go_simp;refine w_d ?_;have HP:=H_ (show Pred ns j q i2 from ⟨C.2.2.2,⟨U,C.2.1,C.2.2.1⟩,fun m n' h1 h2 h3=>iv5 (cw5 C.1) m n' h1 h3⟩);have I:=o;clear o H a4;generalize d4:wr.drew=X at *;clear d4;have a0:Chg [(w:Nat)+2] V X:=hc.trans (Chg.of_below I [(w:Nat)+2]) (fun g O=>.inl O);have E:=HB.below I;have a5:j < 6:=by have:=HK.1;omega
     obtain⟨u,hu⟩:=zj5 E a5;have hz:=E.free j;have b0:BoxO (X.setCell ⟨(w:Nat)+2,j,none⟩ U.b) 234 ((w:Nat)+2) (oc ns (fun l=>if l=j then i2 else J l) j):=by
      have e:=E.store j (.pointer (some U.b));have e2:=qj5 ns J j i2 a5;rw[show pv ns i2=Value.pointer (some U.b) by unfold pv;rw[zz4 C.2.1]]at e2;rw[<-e2];exact e
     have b3:Chg [(w:Nat)+2] V (X.setCell ⟨(w:Nat)+2,j,none⟩ U.b):=a0.setCell _ (.inl s_);have i7:(j:Int) < 6:=o_
     have HF:=H_ (d_ (show ∀l,j<=l->l < 6->Pred ns l q (if l=j then i2 else J l) from fun l h1 h2=>by
      by_cases hl:l=j
      ·subst hl
       rw[if_pos rfl];exact HP
      ·rw[if_neg hl]
       exact HK.2.2.2.2 l o_ h2) (d_ b0 b3))
     clear E b0 a0 b3 a5 I HP;go_wp2;go_roundw
     case rel=>exact⟨j,i2,U,_,by go_num,rfl,H_ ⟨by have:=HK.1;omega,C.2.1,by have:=C.2.2.1;omega,C.2.2.2,HF.1⟩,H_ (by exact HF.2.1),HF.2.2⟩
     case measure=>simp[intOf] <;>omega
    |some b=>
     obtain⟨n3,h3,rfl⟩:=vy3 C.1;obtain⟨k3,g1,g2,g3,Q⟩:=fx5 h3;have b':=i1.out k3 n3 o_ g2;rw[<-HQ.out]at b';have z:=fun W=>gx1 n3.x x W;rw[b']at z;have d5:=H.core.node n3 (u_ g2);generalize g':n3.x=y at *;have c9:∀w',Below wr wr w'->(w'.cell? n3.b=some (.int .i64 y.s)/\w'.cell? (n3.b,1)=some (.int .i64 y.k)/\w'.cell? (n3.b,2)=some (.int .u64 y.t)/\w'.cell? (n3.b,3)=some (.int .u64 y.v)/\w'.cell? (n3.b,4)=some (.int .i64 y.x))/\(w'.cell? (w:Nat)=some (.int .i64 x.s)/\w'.cell? (w,1)=some (.int .i64 x.k)/\w'.cell? (w,2)=some (.int .u64 x.t)/\w'.cell? (w,3)=some (.int .u64 x.v)/\w'.cell? (w,4)=some (.int .i64 x.x)):=fun w' hb=>by
      have e1:=d5.below hb;have e2:=a4.below hb;exact⟨⟨e1.cell 0,e1.cell 1,e1.cell 2,e1.cell 3,e1.cell 4⟩,e2.cell 0,e2.cell 1,e2.cell 2,e2.cell 3,e2.cell 4⟩
     unfold It.val at z
     by_cases d6:k3 < q
     ·have b5:decide (k3 < q)=true:=decide_eq_true d6
      rw[b5]at z;have a1:=H_ z;have KC:=H_ c9;have H3:=H_ (d_ g2 g3);have H4:=H_ g1;have b9:=H_ H;clear z c9 b' b5 g' d5 a4 H g1 g2 g3 Q h3;go_wp2_with fail;simp only[aR_];refine w_h wr fun o=>?_;refine w_v 0 o ?_ (k:=kz1);go_simp;refine w_v 1 o ?_ (k:=kz1);go_simp;refine w_v 2 o ?_ (k:=kz1);go_simp;refine w_v 3 o ?_ (k:=kz1);go_simp;refine w_v 4 o ?_ (k:=kz1);go_simp;refine w_v 5 o ?_ (k:=kz1);go_simp;refine w_v 6 o ?_ (k:=kz1);go_simp;refine w_v 7 o ?_ (k:=kz1);go_simp;refine w_r 8 fun K hK=>?_;go_simp
      with_reducible refine(a1.out _).mono ?_
      rintro e w3 ⟨rfl,E⟩;go_simp;refine hK.out _ _ (o.trans (E.mono o.size)) ?_;clear o hK K;intro o;go_simp;refine w_v 9 o ?_ (k:=kz1);go_simp;refine w_d ?_;have I:=o;clear o KC a1;have H:=b9.below I;generalize w3=X at *;have a0:Chg [(w:Nat)+2] V X:=hc.trans (Chg.of_below I [(w:Nat)+2]) (fun g O=>.inl O);have E:=HB.below I;obtain⟨n5,⟨nl,nf⟩,nc,f6⟩:=H.core.look H3.1 H3.2;have f7:(j:Int) < (n3.c:Int):=o_
      have a9:=gq1 n3.tb j _ X nl (H.core.ptr j (k3+1));have a':=H_ a9;have HF:=H_ (d_ E a0);clear a9 H nl nf E a0 b9;go_wp2_with fail;refine a'.mono ?_;rintro e w1 ⟨rfl,rfl⟩;clear a';have hm:rk ns (.pointer (some n3.b)) < rk ns (.pointer (some U.b)):=by
       rw[b8.core.rk H3.1,b8.core.rk C.2.1];have h1:=(C_.1 H3.1).1;have h2:=H4.out;omega
      go_wp2;go_roundw
      case rel=>exact⟨k3,n3,_,rfl,rfl,H_ ⟨rfl,H3.1,H3.2,d6⟩,H_ HF.1,HF.2⟩
      case measure=>exact hm
     ·have b5:decide (k3 < q)=false:=decide_eq_false d6
      rw[b5]at z;have a1:=H_ z;have KC:=H_ c9;have HP:=H_ (show Pred ns j q i2 from ⟨C.2.2.2,⟨U,C.2.1,C.2.2.1⟩,fun m n' h1 h2 h3=>Q m n' h1 o_ h3⟩);clear z c9 b' b5 g' d5 a4 H g1 g2 g3 Q h3;go_wp2_with fail;simp only[aR_];refine w_h wr fun o=>?_;refine w_v 0 o ?_ (k:=kz1);go_simp;refine w_v 1 o ?_ (k:=kz1);go_simp;refine w_v 2 o ?_ (k:=kz1);go_simp;refine w_v 3 o ?_ (k:=kz1);go_simp;refine w_v 4 o ?_ (k:=kz1);go_simp;refine w_v 5 o ?_ (k:=kz1);go_simp;refine w_v 6 o ?_ (k:=kz1);go_simp;refine w_v 7 o ?_ (k:=kz1);go_simp;refine w_r 8 fun K hK=>?_;go_simp
      with_reducible refine(a1.out _).mono ?_
      rintro e w3 ⟨rfl,E⟩;go_simp;refine hK.out _ _ (o.trans (E.mono o.size)) ?_;clear o hK K;intro o;go_simp;refine w_v 9 o ?_ (k:=kz1);go_simp;refine w_d ?_;have I:=o;clear o KC a1;generalize d4:w3=X at *;clear d4;have a0:Chg [(w:Nat)+2] V X:=hc.trans (Chg.of_below I [(w:Nat)+2]) (fun g O=>.inl O);have E:=HB.below I;have a5:j < 6:=by have:=HK.1;omega
      obtain⟨u,hu⟩:=zj5 E a5;have hz:=E.free j;have b0:BoxO (X.setCell ⟨(w:Nat)+2,j,none⟩ U.b) 234 ((w:Nat)+2) (oc ns (fun l=>if l=j then i2 else J l) j):=by
       have e:=E.store j (.pointer (some U.b));have e2:=qj5 ns J j i2 a5;rw[show pv ns i2=Value.pointer (some U.b) by unfold pv;rw[zz4 C.2.1]]at e2;rw[<-e2];exact e
      have b3:Chg [(w:Nat)+2] V (X.setCell ⟨(w:Nat)+2,j,none⟩ U.b):=a0.setCell _ (.inl s_);have i7:(j:Int) < 6:=o_
      have HF:=H_ (d_ (show ∀l,j<=l->l < 6->Pred ns l q (if l=j then i2 else J l) from fun l h1 h2=>by
       by_cases hl:l=j
       ·subst hl
        rw[if_pos rfl];exact HP
       ·rw[if_neg hl]
        exact HK.2.2.2.2 l o_ h2) (d_ b0 b3))
      clear E b0 a0 b3 a5 I HP;go_wp2;go_roundw
      case rel=>exact⟨j,i2,U,_,by go_num,rfl,H_ ⟨by have:=HK.1;omega,C.2.1,by have:=C.2.2.1;omega,C.2.2.2,HF.1⟩,H_ (by exact HF.2.1),HF.2.2⟩
      case measure=>simp[intOf] <;>omega
structure Gs where
 name:List UInt8
 v:Vw
 count:Nat
 broken:Bool
namespace Gw
open Mn
open Mw (kCur gy headB sweep)
def fin (d:Sd) (M:Gs) (nm:List UInt8):Sd×Gs×Nat:=
 if (d.ak).2≠0 then ((d.ak).1,{ M with name:=nm,count:=1,broken:=true },(d.ak).2)
 else (sweep nm (d.ak).1.list (d.ak).1,{ M with name:=nm,count:=1 },0)
def ren (d:Sd) (M:Gs) (nm:List UInt8):Sd×Gs×Nat:=
 if (d.rename gy kCur).2≠0 then ((d.rename gy kCur).1,M,(d.rename gy kCur).2) else fin (d.rename gy kCur).1 M nm
def sd1 (d:Sd) (M:Gs) (nm:List UInt8):Sd×Gs×Nat:=
 if (d.ak).2≠0 then ((d.ak).1,M,(d.ak).2) else ren (d.ak).1 M nm
def hd (d:Sd) (M:Gs) (nm:List UInt8):Sd×Gs×Nat:=
 if (d.write gy (headB ((number nm kMan).getD 0))).2≠0 then ((d.write gy (headB ((number nm kMan).getD 0))).1,M,(d.write gy (headB ((number nm kMan).getD 0))).2)
 else sd1 (d.write gy (headB ((number nm kMan).getD 0))).1 M nm
def tmp (d:Sd) (M:Gs) (nm:List UInt8):Sd×Gs×Nat:=
 if (d.read gy).2=0 then
  if (d.remove gy).2≠0 then ((d.remove gy).1,M,(d.remove gy).2) else hd (d.remove gy).1 M nm
 else hd d M nm
def rewrite (d:Sd) (M:Gs) (nm:List UInt8):Sd×Gs×Nat:=
 if (d.write nm M.v.whole.rec_).2≠0 then ((d.write nm M.v.whole.rec_).1,M,(d.write nm M.v.whole.rec_).2)
 else tmp (d.write nm M.v.whole.rec_).1 M nm
def put (d:Sd) (M:Gs) (e:Ed) (v:Vw):Sd×Gs×Nat:=
 if (d.append M.name e.rec_).2≠0 then ((d.append M.name e.rec_).1,M,(d.append M.name e.rec_).2)
 else if ((d.append M.name e.rec_).1.sync M.name).2≠0 then (((d.append M.name e.rec_).1.sync M.name).1,{ M with count:=M.count+1,v:=v,broken:=true },((d.append M.name e.rec_).1.sync M.name).2)
 else (((d.append M.name e.rec_).1.sync M.name).1,{ M with count:=M.count+1,v:=v },0)
def save (d:Sd) (M:Gs) (e:Ed):Sd×Gs×Nat:=
 if M.broken=true then (d,M,14)
 else if e.may=false then (d,M,1)
 else match M.v.app e with
  |none=>(d,M,1)
  |some v=>put d M e v
def rewriteM (d:Sd) (M:Gs):Sd×Gs×Nat:=
 if M.broken=true then (d,M,14)
 else if 1073741824 < greatest d.list kMan+1 then (d,M,65)
 else rewrite d M (name kMan (greatest d.list kMan+1))
end Gw
theorem Vw.pj1 {v:Vw} (h:v.ok=true):v.whole.may=true:=by
 simp only[Vw.ok,isNum,N_,decide_eq_true_eq]at h;obtain⟨⟨⟨⟨⟨h1,h2⟩,h3⟩,h4⟩,h5⟩,_⟩:=h;have o:decide (0<=v.log)=true:=by simp;omega
 have z:decide (v.log<=1073741824)=true:=by simp;omega
 simp[Ed.may,Vw.whole,h3,h4,h5];exact⟨o,z⟩
theorem Ed.nx1 {e:Ed} (h:e.may=true):e.rec_.length<=2012:=by
 have:=Ed.aq1 e h;rw[Ed.rec_,Fr.oq];omega
theorem uk1:∀(ns:List Nd) (i j:Nat) (n m:Nd),(ns.flatMap fun n=>[n.b,n.tb]).Nodup->ns[i]?=some n->ns[j]?=some m->(n.b=m.b->i=j)/\(n.tb=m.tb->i=j)/\n.b≠m.tb:=by
 intro ns
 induction ns with
 |nil=>intro i j n m _ hi;simp at hi
 |cons a r I=>
  intro i j n m hd hi hj;simp only[P_,U_,D_,bk_,h_,not_or]at hd;obtain⟨⟨h1,h2⟩,h3,h4⟩:=hd;have o:∀(k:Nat) (u:Nd),r[k]?=some u->u.b≠a.b/\u.tb≠a.b/\u.b≠a.tb/\u.tb≠a.tb:=fun k u z=>
   ⟨fun e=>h2 (W_.2 ⟨u,u_ z,by simp[e]⟩),fun e=>h2 (W_.2 ⟨u,u_ z,by simp[e]⟩),fun e=>h3 (W_.2 ⟨u,u_ z,by simp[e]⟩),fun e=>h3 (W_.2 ⟨u,u_ z,by simp[e]⟩)⟩
  cases i with
  |zero=>
   cases j with
   |zero=>
    simp only[gE0,aD_]at hi hj;subst hi hj;exact⟨fun _=>rfl,fun _=>rfl,h1⟩
   |succ j=>
    simp only[gE0,aD_,gE1]at hi hj;subst hi;obtain⟨C,H,a3,E⟩:=o j m hj;exact⟨fun e=>absurd e.symm C,fun e=>absurd e.symm E,fun e=>H e.symm⟩
  |succ i=>
   cases j with
   |zero=>
    simp only[gE0,aD_,gE1]at hi hj;subst hj;obtain⟨C,H,a3,E⟩:=o i n hi;exact⟨fun e=>absurd e C,fun e=>absurd e E,a3⟩
   |succ j=>
    simp only[gE1]at hi hj;obtain⟨b1,b2,J⟩:=I i j n m h4 hi hj;exact⟨fun e=>by rw[b1 e],fun e=>by rw[b2 e],J⟩
variable {w w':World} {L l j:Nat} {ns A R:List Nd} {n p:Nd}
theorem SkC.raise (h:SkC w (A++n::R)) (hn:n.h=l) (hl:l < n.c) (hj:Pred (A++n::R) l A.length j) (Q:(A++n::R)[j]?=some p):
  SkC ((w.setCell (n.tb,l) (.pointer ((nxb l ((A++n::R).drop (j+1))).map fun b=>⟨b,0,none⟩))).setCell (p.tb,l) n.b) (A++{ n with h:=l+1 }::R):=by
 have a':=hj.lt;have z:(A++n::R)[A.length]?=some n:=by simp
 obtain⟨U,a1,b0⟩:=hj.on;obtain rfl:U=p:=by rw[Q]at a1;exact(ah_ a1).symm
 have E:=fun(i k:Nat) (a b:Nd)=>uk1 (A++n::R) i k a b h.apart;have a2:U.tb≠n.tb:=fun e=>by have:=(E j A.length U n Q z).2.1 e;omega
 have hc:Chg [n.tb,U.tb] w ((w.setCell (n.tb,l) (.pointer ((nxb l ((A++n::R).drop (j+1))).map fun b=>⟨b,0,none⟩))).setCell (U.tb,l) n.b):=((Chg.refl _ w).setCell _ (.inl s_)).setCell _ (.inl s_);have I:∀(i:Nat) (m:Nd),i≠A.length->((A++{ n with h:=l+1 }::R)[i]?=some m↔(A++n::R)[i]?=some m):=fun i m hi=>by
  rcases ad_ i A.length with h1|h1
  ·rw[K_ h1,K_ h1]
  ·rw[af_ h1,af_ h1]
   obtain⟨d,hd⟩:∃d,i - A.length=d+1:=⟨i - A.length - 1,o_⟩;rw[hd,gE1,gE1]
 have O:(A++{ n with h:=l+1 }::R)[A.length]?=some { n with h:=l+1 }:=by simp
 have hr:=fun(i H:Nat) (m:Nd) (hm:(A++{ n with h:=l+1 }::R)[i]?=some m) (o:H < m.h)=>Go.Proofs.YtfbkjjdfboagfaaGreatDoor.raise (n':={ n with h:=l+1 }) hj hn rfl rfl i H m hm o;refine⟨fun m hm=>?_,fun i m hi=>?_,fun m hm=>?_,?_⟩
 ·obtain⟨i,hi⟩:=a9_.1 hm
  by_cases C:i=A.length
  ·subst C
   rw[O]at hi;obtain rfl:=ah_ hi;refine(h.node n (u_ z)).chg hc ?_;simp only[h_,ar_,or_false,not_or];exact⟨(E _ _ _ _ z z).2.2,(E _ _ _ _ z Q).2.2⟩
  ·rw[I i m C]at hi
   refine(h.node m (u_ hi)).chg hc ?_;simp only[h_,ar_,or_false,not_or];exact⟨(E _ _ _ _ hi z).2.2,(E _ _ _ _ hi Q).2.2⟩
 ·by_cases C:i=A.length
  ·subst C
   rw[O]at hi;obtain rfl:=ah_ hi;obtain⟨cs,h1,h2,h3⟩:=h.tower A.length n z;refine⟨_,(h1.store l _).chg (tq _ ⟨U.tb,l,none⟩ _) (by simpa using fun e=>a2 e.symm),by rw[av_];exact h2,fun H o=>?_⟩;rw[hr A.length H _ O o,if_neg o_]
   by_cases a0:H=l
   ·subst a0
    rw[if_pos ⟨rfl,rfl⟩,bw_ o_]
   ·rw[if_neg o_,a3_ o_]
    simp only at o;exact h3 H o_
  ·have J:=(I i m C).1 hi
   obtain⟨cs,h1,h2,h3⟩:=h.tower i m J
   by_cases a5:i=j
   ·subst a5
    rw[Q]at J;obtain rfl:=ah_ J;refine⟨_,(h1.chg (tq w ⟨n.tb,l,none⟩ _) (by simpa using a2)).store l _,by rw[av_];exact h2,fun H o=>?_⟩;rw[hr i H _ hi o];have:=(h.cap U (u_ Q)).1
    by_cases a0:H=l
    ·subst a0
     rw[if_pos ⟨rfl,rfl⟩,bw_ o_];rfl
    ·rw[if_neg o_,if_neg o_,a3_ o_]
     exact h3 H o
   ·refine⟨cs,h1.chg hc ?_,h2,fun H o=>?_⟩
    ·simp only[h_,ar_,or_false,not_or]
     exact⟨fun e=>C ((E _ _ _ _ J z).2.1 e),fun e=>a5 ((E _ _ _ _ J Q).2.1 e)⟩
    ·rw[hr i H _ hi o,if_neg o_,if_neg o_]
     exact h3 H o
 ·obtain⟨i,hi⟩:=a9_.1 hm
  by_cases C:i=A.length
  ·subst C
   rw[O]at hi;obtain rfl:=ah_ hi;exact⟨hl,(h.cap n (u_ z)).2⟩
  ·exact h.cap m (u_ ((I i m C).1 hi))
 ·have:=h.apart
  simpa using this
theorem SkC.insert (h:SkC w (A++R)) (H:n.h=0) (I:n.c<=6) (J:BoxO w 242 n.b (n.x.cells++[.slice (some n.tb) n.c n.c])) (O:BoxO w 239 n.tb (List.replicate n.c (.pointer none))) (C:n.b≠n.tb)
  (h1:n.b∉(A++R).flatMap fun n=>[n.b,n.tb]) (h2:n.tb∉(A++R).flatMap fun n=>[n.b,n.tb]):SkC w (A++n::R):=by
 have o:∀m,m∈A++n::R↔m=n\/m∈A++R:=fun m=>by simp[or_left_comm]
 refine⟨fun m E=>?_,fun i m hi=>?_,fun m E=>?_,?_⟩
 ·rcases (o m).1 E with rfl|h3
  ·exact J
  ·exact h.node m h3
 ·have key:∀l,nxb l ((A++n::R).drop (i+1))=nxb l ((A++R).drop (if i < A.length then i+1 else i)):=fun l=>by
   rcases ad_ i A.length with h3|h3
   ·rw[if_pos h3,au_ o_,au_ o_]
    exact xv5 H
   ·have Q:A.drop (i+1)=[]:=aC_ o_
    have U:A.drop i=[]:=aC_ o_;rw[if_neg o_,bP_,bP_,Q,U,D_,D_,show i+1 - A.length=(i - A.length)+1 by omega,bR_]
  rcases Nat.lt_trichotomy i A.length with h3|h3|h3
  ·rw[K_ h3]at hi
   obtain⟨cs,a,b,c⟩:=h.tower i m (by rw[K_ h3];exact hi);exact⟨cs,a,b,fun l z=>by rw[key,if_pos h3];exact c l z⟩
  ·subst h3
   rw[af_ l_,by_,gE0]at hi;obtain rfl:=ah_ hi;exact⟨_,O,by simp,fun l z=>o_⟩
  ·obtain⟨k,rfl⟩:∃k,i=A.length+k+1:=⟨i - A.length - 1,o_⟩
   rw[af_ o_,show A.length+k+1 - A.length=k+1 by omega,gE1]at hi;obtain⟨cs,a,b,c⟩:=h.tower (A.length+k) m (by rw[af_ o_,show A.length+k - A.length=k by omega];exact hi);exact⟨cs,a,b,fun l z=>by rw[key,if_neg o_];exact c l z⟩
 ·rcases (o m).1 E with rfl|h3
  ·exact⟨o_,I⟩
  ·exact h.cap m h3
 ·have h3:=h.apart
  rw[bl_]at h3 h1 h2 ⊢;rw[P_];refine(List.perm_append_comm_assoc _ _ _).nodup_iff.2 ?_;simp only[U_,D_,bk_,h_,not_or];exact⟨⟨C,h1⟩,h2,h3⟩
theorem SkAt.setx {k:Nat} {x:It} (h:SkAt w L ns) (o:ns[k+1]?=some n) (hR:yj ((its ns).set k x)) (c:Chg [n.b] w w') (hb:BoxO w' 242 n.b (x.cells++[.slice (some n.tb) n.c n.c])):
  SkAt w' L (ns.set (k+1) { n with x:=x })/\its (ns.set (k+1) { n with x:=x })=(its ns).set k x/\skF L (ns.set (k+1) { n with x:=x })=skF L ns:=by
 have a9:k+1 < ns.length:=(C_.1 o).1;have a':ns[k+1]=n:=(C_.1 o).2;have E:∀ns:List Nd,∀(k:Nat) (n:Nd),ns[k]?=some n->(ns.set k { n with x:=x }).flatMap (fun n=>[n.b,n.tb])=ns.flatMap fun n=>[n.b,n.tb]:=by
  intro ns
  induction ns with
  |nil=>intro k n h;simp at h
  |cons a r ih=>
   intro k n h
   cases k with
   |zero=>
    simp only[gE0,aD_]at h;subst h;simp
   |succ k=>
    rw[gE1]at h;simp[ih k n h]
 have H:∀ns:List Nd,∀(k l i:Nat) (n:Nd),ns[k]?=some n->nxb l ((ns.set k { n with x:=x }).drop i)=nxb l (ns.drop i):=by
  intro ns k l i n h;have Q:k < ns.length:=(C_.1 h).1;have hg:ns[k]=n:=(C_.1 h).2
  rcases ad_ k i with h1|h1
  ·rw[List.drop_set_of_lt h1]
  ·rw[cM_,if_neg o_,aZ_,if_pos (by rw[I_];omega)]
   have e:ns.drop i=(ns.drop i).take (k - i)++n::(ns.drop i).drop (k - i+1):=by
    have h2:k - i < (ns.drop i).length:=by rw[I_];omega
    have h3:(ns.drop i)[k - i]=n:=by rw[List.getElem_drop,<-hg];congr 1;omega
    rw[<-h3,List.getElem_cons_drop,ag_]
   conv=>rhs;rw[e]
   exact yk3 rfl Iff.rfl
 have I:=fun(i:Nat) (a:Nd) (hi:ns[i]?=some a)=>uk1 ns i (k+1) a n h.core.apart hi o;have C:its (ns.set (k+1) { n with x:=x })=(its ns).set k x:=by
  unfold its;rw[cM_,if_neg o_,bX_,ck_]
 have z:∀(i:Nat) (m:Nd),(ns.set (k+1) { n with x:=x })[i]?=some m->(i=k+1/\m={ n with x:=x })\/(i≠k+1/\ns[i]?=some m):=fun i m hi=>by
  by_cases J:i=k+1
  ·subst J
   rw[bw_ o_]at hi;exact .inl ⟨rfl,(ah_ hi).symm⟩
  ·rw[a3_ o_]at hi
   exact .inr ⟨J,hi⟩
 have U:n.tb∉[n.b]:=by
  have:=(I (k+1) n o).2.2;simpa using this.symm
 obtain⟨hd,tl,a0,h6,hL⟩:=h.head;have a4:L∉[n.b]:=fun e=>h.out (W_.2 ⟨n,u_ o,by rw[c_.1 e];simp⟩);refine⟨⟨⟨fun m O=>?_,fun i m hi=>?_,fun m O=>?_,?_⟩,⟨hd,tl.set k { n with x:=x },by rw[a0,Q_],h6,by rw[av_];exact hL.chg c a4⟩,?_,fun m O=>?_,?_⟩,C,?_⟩
 ·obtain⟨i,hi⟩:=a9_.1 O
  rcases z i m hi with ⟨rfl,rfl⟩|⟨h1,h2⟩
  ·exact hb
  ·exact(h.core.node m (u_ h2)).chg c (by simpa using fun e=>h1 ((I i m h2).1 e))
 ·rcases z i m hi with ⟨rfl,rfl⟩|⟨h1,h2⟩
  ·obtain⟨cs,a1,a2,a3⟩:=h.core.tower _ n o
   exact⟨cs,a1.chg c U,a2,fun l Q=>by rw[H ns (k+1) l _ n o];exact a3 l Q⟩
  ·obtain⟨cs,a1,a2,a3⟩:=h.core.tower i m h2
   exact⟨cs,a1.chg c (by simpa using fun e=>(uk1 ns (k+1) i n m h.core.apart o h2).2.2 e.symm),a2,fun l Q=>by rw[H ns (k+1) l _ n o];exact a3 l Q⟩
 ·obtain⟨i,hi⟩:=a9_.1 O
  rcases z i m hi with ⟨rfl,rfl⟩|⟨h1,h2⟩
  ·exact h.core.cap n (u_ o)
  ·exact h.core.cap m (u_ h2)
 ·rw[E ns (k+1) n o]
  exact h.core.apart
 ·rw[E ns (k+1) n o]
  exact h.out
 ·obtain⟨i,hi⟩:=a9_.1 O
  rcases z i m hi with ⟨rfl,rfl⟩|⟨h1,h2⟩
  ·exact h.tall n (u_ o)
  ·exact h.tall m (u_ h2)
 ·rw[C]
  exact hR
 ·unfold skF
  rw[E ns (k+1) n o]
end
def cont (d:Sd) (s:List UInt8):Option (List UInt8):=(d.names.get s).map fun i=>(d.files.getD i ([],0)).1
def upd (f:List UInt8->Option (List UInt8)) (s:List UInt8) (v:Option (List UInt8)):List UInt8->Option (List UInt8):=fun t=>if t=s then v else f t
structure Calm (d:Sd):Prop where
 wf:d.Wf
 dead:d.dead=false
 stop:d.stop=0
 fail:d.fail=0
 inj:∀p∈d.names,∀q∈d.names,p.2=q.2->p.1=q.1
structure Small (d:Sd) (K:List (List UInt8)) (B:Nat):Prop where
 names:∀s x,cont d s=some x->s∈K
 len:∀s x,cont d s=some x->x.length<=B
namespace Calm
variable {d:Sd} {s:List UInt8}
theorem new (q:Int) (o:q<=1099511627776):Calm (Sd.new q):=⟨Sd.py5 q o,rfl,rfl,rfl,fun p z=>by cases z⟩
theorem rq1 (q:Int):cont (Sd.new q)=fun _=>none:=rfl
theorem call (h:Calm d) {l:List (List UInt8)} (o:l.all Sd.named=true):d.call l=({ d with calls:=RowKit.wrap64 (d.calls+1) },0):=by
 unfold Sd.call;rw[if_neg (by simp[o])];simp only[h.dead,h.stop,h.fail];rfl
theorem lx2 {x:List UInt8} (o:cont d s=some x):∃i,d.names.get s=some i/\(d.files.getD i ([],0)).1=x:=by
 unfold cont at o
 cases z:d.names.get s with
 |none=>rw[z]at o;cases o
 |some i=>rw[z]at o;injection o with o;exact⟨i,rfl,o⟩
theorem get_none (o:cont d s=none):d.names.get s=none:=by
 unfold cont at o
 cases z:d.names.get s with
 |none=>rfl
 |some i=>rw[z]at o;cases o
theorem qx5 (h:Calm d) (n:Int):Calm { d with calls:=n }:=by
 obtain⟨⟨z,C,a3,E,H,I,J,O,b1,b2,Q,U,o⟩,c1,c2,c3,c4⟩:=h;exact⟨⟨z,C,a3,E,H,I,J,O,b1,b2,Q,U,o⟩,c1,c2,c3,c4⟩
theorem read (h:Calm d) (o:Sd.named s=true) {x:List UInt8} (z:cont d s=some x):d.read s=(x,0):=by
 obtain⟨i,C,E⟩:=lx2 z;unfold Sd.read;rw[if_neg (by simp[o]),if_neg (by simp[h.dead]),C];simp only;rw[E]
theorem qk4 (h:Calm d) (o:Sd.named s=true) (z:cont d s=none):(d.read s).2=11:=by
 unfold Sd.read;rw[if_neg (by simp[o]),if_neg (by simp[h.dead]),get_none z]
theorem create (h:Calm d) (J:Sd.named s=true) (O:cont d s=none) (U:d.names.length < 64):(d.create s).2=0/\Calm (d.create s).1/\cont (d.create s).1=upd (cont d) s (some [])/\(d.create s).1.quota=d.quota:=by
 have I:=h.wf.create s;have Q:=get_none O;have e:d.create s=({ d with calls:=RowKit.wrap64 (d.calls+1),names:=d.names.put s d.files.length,turns:=d.turns++[⟨1,d.files.length,s,[]⟩],files:=d.files++[([],0)] },0):=by
  unfold Sd.create;rw[h.call (by simpa using J)];simp only[ne_eq,not_true_eq_false,if_false,Q,Option.isSome_none,ai_];rw[if_neg o_]
 rw[e]at I ⊢;refine⟨rfl,⟨I,h.dead,h.stop,h.fail,fun p o q z C=>?_⟩,?_,rfl⟩
 ·rcases Nm.qx.1 o with rfl|⟨o,_⟩ <;>rcases Nm.qx.1 z with rfl|⟨z,_⟩
  ·rfl
  ·have:=h.wf.names q z
   simp only at C;omega
  ·have:=h.wf.names p o
   simp only at C;omega
  ·exact h.inj p o q z C
 ·funext t
  unfold cont upd
  dsimp only
  by_cases E:t=s
  ·subst E
   rw[if_pos rfl,Nm.cj1 h.wf.apart];simp
  ·rw[if_neg E,Nm.ry h.wf.apart E]
   cases H:d.names.get t with
   |none=>rfl
   |some i=>
    have hi:=h.wf.names _ (Nm.get_mem H);simp only at hi;simp[t_,K_ hi]
theorem zy3 (h:Calm d) {i:Nat} (o:d.names.get s=some i) (f:List UInt8×Nat):cont { d with files:=d.files.set i f }=upd (cont d) s (some f.1):=by
 funext t
 have hi:i < d.files.length:=h.wf.names _ (Nm.get_mem o);unfold cont upd
 dsimp only
 by_cases z:t=s
 ·subst z
  rw[if_pos rfl,o];simp[t_,hi]
 ·rw[if_neg z]
  cases C:d.names.get t with
  |none=>rfl
  |some j=>
   have E:i≠j:=fun e=>z ((h.inj _ (Nm.get_mem C) _ (Nm.get_mem o) (by simp[e])));simp[t_,List.getElem?_set,E]
theorem append (h:Calm d) (C:Sd.named s=true) {x:List UInt8} (E:cont d s=some x) (b:List UInt8) (h1:x.length+b.length<=250000) (h2:d.used+b.length<=d.quota):(d.append s b).2=0/\Calm (d.append s b).1/\cont (d.append s b).1=upd (cont d) s (some (x++b))/\(d.append s b).1.quota=d.quota:=by
 have o:=h.wf.append s b;obtain⟨i,z,H⟩:=lx2 E;have e:d.append s b=({ d with calls:=RowKit.wrap64 (d.calls+1),files:=d.files.set i (x++b,(d.files.getD i ([],0)).2) },0):=by
  unfold Sd.append;rw[h.call (by simpa using C)];simp only[ne_eq,not_true_eq_false,if_false,z];unfold Sd.size;rw[H,if_neg o_,if_neg o_]
 rw[e]at o ⊢;refine⟨rfl,⟨o,h.dead,h.stop,h.fail,h.inj⟩,?_,rfl⟩;exact(h.qx5 (RowKit.wrap64 (d.calls+1))).zy3 z _
theorem sync (h:Calm d) (E:Sd.named s=true) {x:List UInt8} (o:cont d s=some x):(d.sync s).2=0/\Calm (d.sync s).1/\cont (d.sync s).1=cont d/\(d.sync s).1.quota=d.quota:=by
 have z:=h.wf.sync s;obtain⟨i,C,H⟩:=lx2 o;have e:d.sync s=({ d with calls:=RowKit.wrap64 (d.calls+1),files:=d.files.set i (x,d.size i) },0):=by
  unfold Sd.sync;rw[h.call (by simpa using E)];simp only[ne_eq,not_true_eq_false,if_false,C];rw[H]
 rw[e]at z ⊢;refine⟨rfl,⟨z,h.dead,h.stop,h.fail,h.inj⟩,?_,rfl⟩;have h2:=(h.qx5 (RowKit.wrap64 (d.calls+1))).zy3 C (x,d.size i);refine h2.trans ?_
 funext t
 unfold upd;split
 ·subst_vars;exact o.symm
 ·rfl
theorem qj (h:Calm d) {K:List (List UInt8)} {B:Nat} (E:Small d K B):d.names.length<=K.length/\d.used<=K.length *B:=by
 have key:∀(m:Nm) (K:List (List UInt8)),Nm.Apart m->(∀p∈m,p.1∈K/\d.size p.2<=B)->m.length<=K.length/\(m.map fun p=>d.size p.2).sum<=K.length *B:=by
  intro m
  induction m with
  |nil=>intro K _ _;simp
  |cons p r J=>
   intro K O z;obtain⟨h1,h2⟩:=ao_.1 O;obtain⟨o,hs⟩:=z p s_;have Q:=List.length_erase_of_mem o;have H:0 < K.length:=List.length_pos_of_mem o;obtain⟨U,i2⟩:=J (K.erase p.1) h2 (fun q C=>⟨by
    have:=(z q (by simp[C])).1;exact(List.mem_erase_of_ne (fun e=>h1 q C e.symm)).2 this,(z q (by simp[C])).2⟩)
   rw[Q]at U i2;refine⟨by simp;omega,?_⟩;simp only[al_,bC_];have e:K.length *B=(K.length - 1)*B+B:=by
    conv=>lhs;rw[show K.length=(K.length - 1)+1 by omega,bz_,Nat.one_mul]
   omega
 refine key d.names K h.wf.apart (fun p o=>?_);have hg:=Nm.zk1 h.wf.apart (s:=p.1) (i:=p.2) (by simpa using o);have I:cont d p.1=some (d.files.getD p.2 ([],0)).1:=by unfold cont;rw[hg];rfl
 exact⟨E.names _ _ I,E.len _ _ I⟩
theorem write (h:Calm d) (z:Sd.named s=true) (J:cont d s=none) {K:List (List UInt8)} {B:Nat} (C:Small d K B) (hK:K.length < 64) (b:List UInt8) (h1:b.length<=250000) (h2:(K.length+1)*B+b.length<=d.quota):
  (d.write s b).2=0/\Calm (d.write s b).1/\cont (d.write s b).1=upd (cont d) s (some b)/\(d.write s b).1.quota=d.quota:=by
 obtain⟨l1,l2⟩:=h.qj C;obtain⟨c1,c2,c3,c4⟩:=h.create z J o_;have E:Small (d.create s).1 (s::K) B:=⟨fun t x o=>by
  rw[c3]at o;unfold upd at o;split at o
  ·subst_vars;simp
  ·exact f_ _ (C.names t x o),fun t x o=>by
  rw[c3]at o;unfold upd at o;split at o
  ·injection o with o;subst o;simp
  ·exact C.len t x o⟩
 obtain⟨_,O⟩:=c2.qj E;have H:cont (d.create s).1 s=some []:=by rw[c3,upd,if_pos rfl]
 simp only[r_]at O;obtain⟨Q,U,a3,a4⟩:=c2.append z H b (by simp;exact h1) (by rw[c4];omega);have I:cont ((d.create s).1.append s b).1 s=some b:=by rw[a3,upd,if_pos rfl];rfl
 obtain⟨b1,b2,b3,b4⟩:=U.sync z I;unfold Sd.write;rw[if_neg (by simp[c1]),if_neg (by simp[Q])];refine⟨b1,b2,?_,b4.trans (a4.trans c4)⟩;rw[b3,a3,c3]
 funext t
 unfold upd;split<;>rfl
theorem remove (h:Calm d) (C:Sd.named s=true) {x:List UInt8} (E:cont d s=some x):(d.remove s).2=0/\Calm (d.remove s).1/\cont (d.remove s).1=upd (cont d) s none/\(d.remove s).1.quota=d.quota:=by
 have z:=h.wf.remove s;obtain⟨i,H,Q⟩:=lx2 E;have e:d.remove s=({ d with calls:=RowKit.wrap64 (d.calls+1),names:=d.names.del s,turns:=d.turns++[⟨3,0,s,[]⟩] },0):=by
  unfold Sd.remove;rw[h.call (by simpa using C)];simp only[ne_eq,not_true_eq_false,if_false,H,bV_,ai_];rfl
 rw[e]at z ⊢;refine⟨rfl,⟨z,h.dead,h.stop,h.fail,fun p I q J O=>h.inj p (Nm.zq.1 I).1 q (Nm.zq.1 J).1 O⟩,?_,rfl⟩
 funext t
 unfold cont upd
 dsimp only
 by_cases o:t=s
 ·subst o
  rw[if_pos rfl,Nm.pq1];rfl
 ·rw[if_neg o,Nm.dq1 h.wf.apart o]
theorem rename (h:Calm d) {a b:List UInt8} (ha:Sd.named a=true) (hb:Sd.named b=true) (H:a≠b) {x:List UInt8} (hc:cont d a=some x):(d.rename a b).2=0/\Calm (d.rename a b).1/\cont (d.rename a b).1=upd (upd (cont d) b (some x)) a none/\(d.rename a b).1.quota=d.quota:=by
 have hw:=h.wf.rename a b;obtain⟨i,I,hx⟩:=lx2 hc;have J:Tn.go ⟨2,0,a,b⟩ d.names=(d.names.put b i).del a:=by unfold Tn.go;simp[I]
 have e:d.rename a b=({ d with calls:=RowKit.wrap64 (d.calls+1),names:=(d.names.put b i).del a,turns:=d.turns++[⟨2,0,a,b⟩] },0):=by
  unfold Sd.rename;rw[h.call (by simp[ha,hb])];simp only[ne_eq,not_true_eq_false,if_false,I,bV_,ai_,H];rw[J]
 rw[e]at hw ⊢;have O:=Nm.cy1 h.wf.apart b i;refine⟨rfl,⟨hw,h.dead,h.stop,h.fail,fun p z q C Q=>?_⟩,?_,rfl⟩
 ·obtain⟨z,U⟩:=Nm.zq.1 z
  obtain⟨C,a0⟩:=Nm.zq.1 C;have E:=Nm.get_mem I
  rcases Nm.qx.1 z with rfl|⟨z,_⟩ <;>rcases Nm.qx.1 C with rfl|⟨C,_⟩
  ·rfl
  ·exact absurd (h.inj _ E q C (by simpa using Q)).symm a0
  ·exact absurd (h.inj p z _ E (by simpa using Q)) U
  ·exact h.inj p z q C Q
 ·funext t
  unfold cont upd
  dsimp only
  by_cases ht:t=a
  ·subst ht
   rw[if_pos rfl,Nm.pq1];rfl
  ·rw[if_neg ht,Nm.dq1 O ht]
   by_cases o:t=b
   ·subst o
    rw[if_pos rfl,Nm.cj1 h.wf.apart];simp only[aR_];rw[hx]
   ·rw[if_neg o,Nm.ry h.wf.apart o]
theorem ak (h:Calm d):(d.ak).2=0/\Calm (d.ak).1/\cont (d.ak).1=cont d/\(d.ak).1.quota=d.quota:=by
 have o:=h.wf.ak;have e:d.ak=({ d with calls:=RowKit.wrap64 (d.calls+1),lasted:=d.names,turns:=[] },0):=by
  unfold Sd.ak;rw[h.call rfl];rfl
 rw[e]at o ⊢;exact⟨rfl,⟨o,h.dead,h.stop,h.fail,h.inj⟩,rfl,rfl⟩
theorem ez1 (h:Calm d):s∈d.list↔∃x,cont d s=some x:=by
 unfold Sd.list;rw[if_neg (by simp[h.dead]),List.mem_mergeSort];constructor
 ·intro z
  obtain⟨p,C,rfl⟩:=aP_.1 z;have o:=Nm.zk1 h.wf.apart (s:=p.1) (i:=p.2) (by simpa using C);exact⟨_,by unfold cont;rw[o];rfl⟩
 ·rintro⟨x,E⟩
  obtain⟨i,o,_⟩:=lx2 E;exact aP_.2 ⟨(s,i),Nm.get_mem o,rfl⟩
end Calm
section
open Go.ChangeShapes Go.WideShapes Go.Deep Go.Joins
section
variable {H:Type} {enc:TypeId×Value->H} {P:Program} {w:World} {base:Nat} {spare:Nat->Bool} {held:Bool}
end
theorem ez6 {n:Int} (h:(Lit.int .u64 n).wf=true):∃u:Nat,n=(u:Int)/\u < 18446744073709551616:=by
 simp only[Lit.wf,IntKind.min,IntKind.max,IntKind.signed,IntKind.bits,N_,decide_eq_true_eq,ai_,if_false]at h;exact⟨n.toNat,o_,o_⟩
end
theorem xx4 {n:Nat} (h:n < 18446744073709551616):-9223372036854775808<=rv1 n/\rv1 n < 9223372036854775808:=by
 unfold rv1;split<;>omega
namespace It
theorem vw4 (b:List UInt8) (h:(take1 b).2.2=0):(take1 b).1.fit:=by
 have o:It.fit ⟨0,0,0,0,0⟩:=by unfold It.fit;exact⟨by decide,by decide⟩
 unfold take1 at h ⊢;split
 ·exact o
 ·split
  ·split
   ·split
    ·rename_i x z e
     have h1:∀q,Pn.take q=(x,z,0)->x < 18446744073709551616:=fun q C=>by
      have:=Pn.qx3 q;rw[C]at this;exact this
     exact xx4 (h1 _ e)
    ·exact o
   ·exact o
  ·exact o
theorem cj3:∀(n:Nat) (b:List UInt8) (out:List It),(∀y∈out,y.fit)->∀y∈(takes n b out).1,y.fit
 |0,b,out,h=>h
 |n+1,b,out,h=>by
  unfold takes;split
  ·rename_i x r e
   refine cj3 n r _ (fun y o=>?_)
   rcases q_.1 o with h1|h1
   ·exact h y h1
   ·rw[c_.1 h1]
    have:=vw4 b (by rw[e]);rw[e]at this;exact this
  ·intro y o
   simp at o
theorem cx5 (b:List UInt8):∀y∈(read b).1,y.fit:=by
 unfold read;split
 ·split
  ·intro y o
   simp at o
  ·split
   ·rename_i out r e
    split
    ·intro y o
     have h2:=cj3 _ _ [] (fun y h=>by simp at h) y (by rw[e];exact o);exact h2
    ·intro y o
     simp at o
   ·intro y o
    simp at o
 ·intro y o
  simp at o
end It
structure Sv where
 M:Gs
 nm:List UInt8
 sz:Nat
 ct:Nat
 mem:List It
 tabs:List ((Int×Int)×List (List It))
 st:List It
 only:Bool
namespace St
def jw:List UInt8:=[108,111,103,46,49]
def jy4:List UInt8:=[109,97,110,46,49]
def cx1 (s:List UInt8):Bool:=(s==Mw.kCur||s==Mw.gy)||[Mn.kLog,Mn.kTab,Mn.kMan].any fun k=>(Mn.number s k).isSome
def isNone (S:Sd) (s:List UInt8):Bool:=(s==Mw.gy||s==jy4)||(s==jw&&(S.read s).1.length==0)
def dv3 (S:Sd):Bool:= !(S.list.any fun s=>cx1 s&&!isNone S s)
def wipe:List (List UInt8)->Sd->Sd×Nat
 |[],S=>(S,0)
 |s::r,S=>if cx1 s=true then (if (S.remove s).2=0 then wipe r (S.remove s).1 else S.remove s) else wipe r S
def first:Gs:=⟨[],⟨1,[],0,0,0,0⟩,0,false⟩
def create (S:Sd):Sd×Option Sv×Nat:=
 let a:=wipe S.list S
 if a.2≠0 then (a.1,none,a.2) else
 let b:=a.1.create jw
 if b.2≠0 then (b.1,none,b.2) else
 let c:=b.1.sync jw
 if c.2≠0 then (c.1,none,c.2) else
 let r:=Gw.rewrite c.1 first (Mn.name Mn.kMan 1)
 if r.2.2≠0 then (r.1,none,r.2.2) else (r.1,some ⟨r.2.1,jw,0,0,[],[],[],false⟩,0)
def number (S:Sd):Int:=max (Mn.greatest S.list Mn.kLog) (Mn.greatest S.list Mn.kTab)+1
def write (S:Sd) (l:List It):Sd×Nat:=
 if 1073741824 < number S then (S,65) else
 let s:=Mn.name Mn.kTab (number S)
 let a:=S.create s
 if a.2≠0 then a else
 let b:=a.1.append s (Tb.make l)
 if b.2≠0 then b else b.1.sync s
def fresh (S:Sd):Sd×Nat:=
 if 1073741824 < number S then (S,65) else
 let s:=Mn.name Mn.kLog (number S)
 let a:=S.create s
 if a.2≠0 then a else a.1.sync s
def saved (S:Sd) (V:Sv) (x:Ed):Sd×Sv×Nat:=
 let r:=Gw.save S V.M x
 (r.1,{ V with M:=r.2.1,only:=V.only||r.2.1.broken },r.2.2)
def turn (S:Sd) (V:Sv) (x:Ed) (D:Sv->Sv):Sd×Sv×Nat:=
 if S.ak.2≠0 then (S.ak.1,V,S.ak.2) else
 let r:=saved S.ak.1 V x
 if r.2.2=0\/r.2.1.only=true then (r.1,D r.2.1,r.2.2) else r
def live (V:Sv):List It:=V.mem.filter fun x=>decide (x∈V.st)
def turned (n:Int) (tabs:List ((Int×Int)×List (List It))) (V:Sv):Sv:={ V with nm:=Mn.name Mn.kLog n,sz:=0,ct:=0,mem:=[],tabs:=tabs }
def lx3 (S:Sd) (V:Sv) (add:List (Int×Int)) (tabs:List ((Int×Int)×List (List It))):Sd×Sv×Nat:=
 let b:=fresh S
 if b.2≠0 then (b.1,V,b.2) else
 let r:=turn b.1 V ⟨[],add,number S,0,0,0,0⟩ (turned (number S) tabs)
 if r.2.2=0 then ((r.1.remove (Mn.name Mn.kLog V.M.v.log)).1,r.2.1,0) else r
def flush (S:Sd) (V:Sv):Sd×Sv×Nat:=
 if V.only=true then (S,V,14) else
 if V.ct=0 then (S,V,0) else
 if 30<=V.tabs.length then (S,V,65) else
 if live V=[] then lx3 S V [] V.tabs else
 let a:=write S (live V)
 if a.2≠0 then (a.1,V,a.2) else lx3 a.1 V [(0,number S)] (V.tabs++[((0,number S),Tb.rows (live V))])
def apply (S:Sd) (V:Sv) (l:List It):Sd×Sv×Nat:=
 if V.only=true then (S,V,14) else
 if l=[]\/l.all It.ok=false then (S,V,1) else
 if 1000 < l.length then (S,V,2) else
 if 1500 < (joins V.st l).length then (S,V,2) else
 let a:=S.append V.nm (Lg.batch l)
 if a.2≠0 then (a.1,V,a.2) else (a.1,{ V with sz:=V.sz+(Lg.batch l).length,ct:=V.ct+1,mem:=l.foldl wput V.mem,st:=joins V.st l },0)
end St
namespace Ls
section
variable (L:Sd->List (List UInt8))
end
end Ls
def Ct.Ends (a b:Ct) (er:Nat):Prop:=Ct.Reach a b/\(er≠0->∃c,Ct.Reach a c/\er=c.call.2/\b=c.call.1)
theorem Ct.Ends.one (a:Ct):Ct.Ends a a.call.1 a.call.2:=⟨Ct.Reach.one a,fun _=>⟨a,Ct.Reach.refl a,rfl,rfl⟩⟩
theorem Ct.Ends.none {a b:Ct} (h:Ct.Reach a b):Ct.Ends a b 0:=⟨h,fun e=>absurd rfl e⟩
theorem Ct.Ends.after {a b c:Ct} {er:Nat} (h:Ct.Reach a b) (k:Ct.Ends b c er):Ct.Ends a c er:=
 ⟨h.trans k.1,fun e=>let ⟨x,h1,h2,h3⟩:=k.2 e;⟨x,h.trans h1,h2,h3⟩⟩
namespace Sd
variable {d:Sd} {s b:List UInt8} {i:Nat} {f:List UInt8×Nat}
theorem ry1 (d:Sd) {l:List (List UInt8)} (o:l.all named=true):(d.call l).1.co=d.co/\(d.call l).1.ct=d.ct.call.1/\(d.call l).2=d.ct.call.2:=by
 unfold call Ct.call;rw[if_neg (by simp[o])];simp only[Sd.ct]
 by_cases h1:d.dead=true
 ·simp[h1,Sd.co]
 ·simp only[h1]
  by_cases h2:0 < d.stop<;>by_cases h3:0 < d.fail<;>by_cases h4:d.fail - 1=0<;>simp[h2,h3,h4,Sd.co] <;>rfl
theorem iq3 (o:named s=true) (z:d.names.get s=none) (C:d.names.length < 64):(d.create s).2=d.ct.call.2/\(d.create s).1.ct=d.ct.call.1/\(d.create s).1.co=if d.ct.call.2=0 then d.co.create s else d.co:=by
 obtain⟨c1,c2,c3⟩:=d.ry1 (l:=[s]) (by simpa using o);unfold create;rw[<-c3]
 by_cases h:(d.call [s]).2=0
 ·rw[if_neg (by simp[h]),if_neg (by simp[z]),if_neg o_,if_pos h]
  refine⟨h.symm,c2,?_⟩;have:=congrArg Co.quota c1;have t2:=congrArg Co.lasted c1;have t3:=congrArg Co.turns c1;simp only[co]at this t2 t3;simp[co,Co.create,this,t2]
 ·rw[if_pos h,if_neg h]
  exact⟨rfl,c2,c1⟩
theorem tk4 (e:(d.call [s]).1.co=d.co):({ (d.call [s]).1 with files:=d.files.set i f }:Sd).co=d.co.qw i f:=by
 have t1:=congrArg Co.quota e;have t2:=congrArg Co.lasted e;have t3:=congrArg Co.turns e;have t4:=congrArg Co.names e;simp only[co]at t1 t2 t3 t4;simp[co,Co.qw,t1,t2,t3,t4]
theorem ej3 (z:named s=true) (C:d.names.get s=some i) (E:d.files[i]?=some f) (h1:f.1.length+b.length<=250000) (h2:d.used+b.length<=d.quota):(d.append s b).2=d.ct.call.2/\(d.append s b).1.ct=d.ct.call.1/\(d.append s b).1.co=if d.ct.call.2=0 then d.co.qw i (f.1++b,f.2) else d.co:=by
 obtain⟨c1,c2,c3⟩:=d.ry1 (l:=[s]) (by simpa using z);have o:d.files.getD i ([],0)=f:=by rw[t_,E];rfl
 unfold append;rw[<-c3]
 by_cases h:(d.call [s]).2=0
 ·rw[if_neg (by simp[h]),if_pos h,C]
  simp only[size,o];rw[if_neg o_,if_neg o_];exact⟨h.symm,c2,tk4 c1⟩
 ·rw[if_pos h,if_neg h]
  exact⟨rfl,c2,c1⟩
theorem pq3 (z:named s=true) (C:d.names.get s=some i) (E:d.files[i]?=some f):(d.sync s).2=d.ct.call.2/\(d.sync s).1.ct=d.ct.call.1/\(d.sync s).1.co=if d.ct.call.2=0 then d.co.qw i (f.1,f.1.length) else d.co:=by
 obtain⟨c1,c2,c3⟩:=d.ry1 (l:=[s]) (by simpa using z);have o:d.files.getD i ([],0)=f:=by rw[t_,E];rfl
 unfold sync;rw[<-c3]
 by_cases h:(d.call [s]).2=0
 ·rw[if_neg (by simp[h]),if_pos h,C]
  simp only[size,o];exact⟨h.symm,c2,tk4 c1⟩
 ·rw[if_pos h,if_neg h]
  exact⟨rfl,c2,c1⟩
theorem bx3 (o:named s=true) (z:d.names.get s=some i):(d.remove s).2=d.ct.call.2/\(d.remove s).1.ct=d.ct.call.1/\(d.remove s).1.co=if d.ct.call.2=0 then d.co.remove s else d.co:=by
 obtain⟨c1,c2,c3⟩:=d.ry1 (l:=[s]) (by simpa using o);unfold remove;rw[<-c3]
 by_cases h:(d.call [s]).2=0
 ·rw[if_neg (by simp[h]),if_neg (by simp[z]),if_pos h]
  refine⟨h.symm,c2,?_⟩;have t1:=congrArg Co.quota c1;have t2:=congrArg Co.lasted c1;have t3:=congrArg Co.files c1;simp only[co]at t1 t2 t3;simp[co,Co.remove,t1,t2,t3]
 ·rw[if_pos h,if_neg h]
  exact⟨rfl,c2,c1⟩
theorem sz4 {a:List UInt8} (z:named a=true) (C:named b=true) (o:a≠b) (E:d.names.get a=some i):(d.rename a b).2=d.ct.call.2/\(d.rename a b).1.ct=d.ct.call.1/\(d.rename a b).1.co=if d.ct.call.2=0 then d.co.rename a b else d.co:=by
 obtain⟨c1,c2,c3⟩:=d.ry1 (l:=[a,b]) (by simp[z,C]);unfold rename;rw[<-c3]
 by_cases h:(d.call [a,b]).2=0
 ·rw[if_neg (by simp[h]),if_neg (by simp[E]),if_neg o,if_pos h]
  refine⟨h.symm,c2,?_⟩;have t1:=congrArg Co.quota c1;have t2:=congrArg Co.lasted c1;have t3:=congrArg Co.files c1;simp only[co]at t1 t2 t3;simp[co,Co.rename,t1,t2,t3]
 ·rw[if_pos h,if_neg h]
  exact⟨rfl,c2,c1⟩
theorem pw2:(d.ak).2=d.ct.call.2/\(d.ak).1.ct=d.ct.call.1/\(d.ak).1.co=if d.ct.call.2=0 then d.co.ak else d.co:=by
 obtain⟨c1,c2,c3⟩:=d.ry1 (l:=[]) rfl;unfold ak;rw[<-c3]
 by_cases h:(d.call []).2=0
 ·rw[if_neg (by simp[h]),if_pos h]
  refine⟨h.symm,c2,?_⟩;have t1:=congrArg Co.quota c1;have t2:=congrArg Co.names c1;have t3:=congrArg Co.files c1;simp only[co]at t1 t2 t3;simp[co,Co.ak,t1,t2,t3]
 ·rw[if_pos h,if_neg h]
  exact⟨rfl,c2,c1⟩
theorem dz3 (g:Nat->Nat):∀(n:Nat) (l:List Nat),l.Nodup->(∀x∈l,x < n)->(l.map g).sum<=((List.range n).map g).sum:=by
 intro n
 induction n with
 |zero=>
  intro l _ h
  cases l with
  |nil=>simp
  |cons a r=>have:=h a s_;omega
 |succ n C=>
  intro l z h;rw[List.range_succ,aK_,List.sum_append];simp only[al_,bc_,bC_,List.sum_nil]
  by_cases E:n∈l
  ·have H:=List.perm_cons_erase E
   have e:=(H.map g).sum_nat;have:=C (l.erase n) (z.erase n) (fun x o=>by
    have h1:=h x (List.mem_of_mem_erase o);have h2:x≠n:=fun e=>by subst e;exact z.not_mem_erase o
    omega)
   rw[e];simp only[al_,bC_];omega
  ·have:=C l z (fun x o=>by
    have h1:=h x o;have h2:x≠n:=fun e=>E (by rw[<-e];exact o);omega)
   omega
theorem jv4 (h:d.co.In):d.used<=d.co.total:=by
 have z:(d.names.map (·.2)).Nodup:=by
  have h1:=h.apart;have h2:=h.inj;simp only[co]at h1 h2;unfold Nm.Apart at h1;rw[List.nodup_iff_pairwise_ne,cs_];refine h1.imp_of_mem (fun {a b} C E o e=>o (h2 a C b E e))
 have H:∀x∈d.names.map (·.2),x < d.files.length:=fun x I=>by
  obtain⟨p,J,rfl⟩:=aP_.1 I;exact h.lead p J
 have:=dz3 d.size d.files.length (d.names.map (·.2)) z H;have O:(d.names.map (·.2)).map d.size=d.names.map fun p=>d.size p.2:=by simp
 have Q:(List.range d.files.length).map d.size=d.files.map fun f=>f.1.length:=by
  refine cz_ s_ fun i h1 h2=>?_;simp only[aG_,List.length_range]at h1;simp[size,t_,h1]
 rw[O,Q]at this;exact this
end Sd
namespace Co
def zy5 (c:Co) (s:List UInt8):Prop:=(∃p∈c.names,p.1=s)\/(∃p∈c.lasted,p.1=s)\/∃u∈c.turns,u.a=s\/u.b=s
structure bw1 (N:List UInt8->Prop) (K:List (List UInt8)) (c c':Co) (k n:Nat):Prop where
 in_:c'.In
 quota:c'.quota=c.quota
 most:c'.most<=c.most+k
 total:c'.total<=c.total+n
 held:∀u,¬N u->∀t l,c.Held u t l->c'.Held u t l
 now:∀u,¬N u->∀t l,c.Now u t l->c'.Now u t l
 gone:∀u,¬N u->c.names.get u=none->c'.names.get u=none
 known:∀u,c'.zy5 u->c.zy5 u\/u∈K\/u=[]
variable {c c1 c2:Co} {N M:List UInt8->Prop} {K L:List (List UInt8)} {k k1 n n1:Nat} {s b t:List UInt8} {l:Nat}
theorem bw1.refl (h:c.In) (N:List UInt8->Prop) (K:List (List UInt8)):bw1 N K c c 0 0:=⟨h,rfl,B_ _,B_ _,fun _ _ _ _ h=>h,fun _ _ _ _ h=>h,fun _ _ h=>h,fun _ h=>.inl h⟩
theorem bw1.trans (h:bw1 N K c c1 k n) (g:bw1 N K c1 c2 k1 n1):bw1 N K c c2 (k+k1) (n+n1):=
 ⟨g.in_,g.quota.trans h.quota,by have:=h.most;have:=g.most;omega,by have:=h.total;have:=g.total;omega,fun u o t l a=>g.held u o t l (h.held u o t l a),fun u o t l a=>g.now u o t l (h.now u o t l a),fun u o a=>g.gone u o (h.gone u o a),fun u a=>by
  rcases g.known u a with a|a|a
  ·exact h.known u a
  ·exact .inr (.inl a)
  ·exact .inr (.inr a)⟩
theorem bw1.mono (h:bw1 N K c c1 k n) (z:∀s,N s->M s) (C:∀s∈K,s∈L) (E:k<=k1) (H:n<=n1):bw1 M L c c1 k1 n1:=
 ⟨h.in_,h.quota,by have:=h.most;omega,by have:=h.total;omega,fun u o=>h.held u (fun a=>o (z u a)),fun u o=>h.now u (fun a=>o (z u a)),fun u o=>h.gone u (fun a=>o (z u a)),fun u a=>by
  rcases h.known u a with a|a|a
  ·exact .inl a
  ·exact .inr (.inl (C u a))
  ·exact .inr (.inr a)⟩
theorem ix2 (h:c.In):c.names.length<=c.most:=by
 have:=iz2 (us:=c.turns) h.lapart;rw[<-h.whole]at this;exact this
theorem kx3 (h:c.In) (E:c.names.get s=none):bw1 (·=s) [s] c (c.create s) 1 0:=
 ⟨h.create E,rfl,a4_ (jy2 c s),a4_ (zy1 c s),fun u o t l a=>a.create h o,fun u o t l a=>a.create h o,fun u o a=>(ev4 h o).trans a,fun u o=>by
  rcases o with ⟨p,z,rfl⟩|⟨p,z,rfl⟩|⟨v,C,e⟩
  ·rcases Nm.qx.1 z with rfl|⟨z,_⟩
   ·exact .inr (.inl s_)
   ·exact .inl (.inl ⟨p,z,rfl⟩)
  ·exact .inl (.inr (.inl ⟨p,z,rfl⟩))
  ·rcases q_.1 C with C|C
   ·exact .inl (.inr (.inr ⟨v,C,e⟩))
   ·rw[c_.1 C]at e
    rcases e with rfl|rfl
    ·exact .inr (.inl s_)
    ·exact .inr (.inr rfl)⟩
theorem jw3 {i:Nat} {f g:List UInt8×Nat} (h:c.In) (z:c.names.get s=some i) (C:c.files[i]?=some f):bw1 (·=s) [] c (c.qw i g) 0 (g.1.length - f.1.length):=
 ⟨h.qw i g,rfl,B_ _,by have:=tx1 (f:=g) C;omega,fun u o t l a=>a.other h z o g,fun u o t l a=>a.other h z o g,fun u o a=>a,fun u o=>.inl o⟩
theorem aj2 {i:Nat} (h:c.In) (E:c.names.get s=some i):bw1 (·=s) [] c (c.remove s) 0 0:=
 ⟨h.remove s,rfl,a4_ (nx3 c s),B_ _,fun u o t l a=>a.remove h o,fun u o t l a=>a.remove h o,fun u o a=>(ix4 h o).trans a,fun u o=>by
  rcases o with ⟨p,C,rfl⟩|⟨p,C,rfl⟩|⟨v,z,e⟩
  ·exact .inl (.inl ⟨p,(kk4 C).1,rfl⟩)
  ·exact .inl (.inr (.inl ⟨p,C,rfl⟩))
  ·rcases q_.1 z with z|z
   ·exact .inl (.inr (.inr ⟨v,z,e⟩))
   ·rw[c_.1 z]at e
    rcases e with rfl|rfl
    ·exact .inl (.inl ⟨_,Nm.get_mem E,rfl⟩)
    ·exact .inr (.inr rfl)⟩
theorem iy3 {a:List UInt8} {i:Nat} (h:c.In) (C:b.length<=16) (H:c.names.get a=some i):bw1 (fun u=>u=a\/u=b) [a,b] c (c.rename a b) 0 0:=
 ⟨h.rename a b C,rfl,a4_ (py3 c a b),B_ _,fun u o t l k=>k.rename h (fun e=>o (.inl e)) (fun e=>o (.inr e)),fun u o t l k=>k.rename h (fun e=>o (.inl e)) (fun e=>o (.inr e)),fun u o k=>by
  have I:u≠a:=fun e=>o (.inl e);have J:u≠b:=fun e=>o (.inr e);exact(go_get (u:=⟨2,0,a,b⟩) h.apart ⟨I.symm,fun _=>J.symm⟩).trans k,fun u o=>by
  rcases o with ⟨p,z,rfl⟩|⟨p,z,rfl⟩|⟨v,E,e⟩
  ·rw[ax2 H]at z
   obtain⟨z,_⟩:=Nm.zq.1 z
   rcases Nm.qx.1 z with rfl|⟨z,_⟩
   ·exact .inr (.inl s_)
   ·exact .inl (.inl ⟨p,z,rfl⟩)
  ·exact .inl (.inr (.inl ⟨p,z,rfl⟩))
  ·rcases q_.1 E with E|E
   ·exact .inl (.inr (.inr ⟨v,E,e⟩))
   ·rw[c_.1 E]at e
    rcases e with rfl|rfl<;>exact .inr (.inl s_)⟩
theorem ux1 (h:c.In):bw1 (fun _=>False) [] c c.ak 0 0:=
 ⟨h.ak,rfl,by rw[ay2];exact ix2 h,B_ _,fun u _ t l a=>Co.Now.ak (Co.Held.now a),fun u _ t l a=>Co.Held.now (Co.Now.ak a),fun u _ a=>a,fun u z=>by
  rcases z with ⟨p,o,rfl⟩|⟨p,o,rfl⟩|⟨v,C,e⟩
  ·exact .inl (.inl ⟨p,o,rfl⟩)
  ·exact .inl (.inl ⟨p,o,rfl⟩)
  ·simp[ak]at C⟩
end Co
end Go.Proofs.YtfbkjjdfboagfaaGreatDoor
