/- Some of the texts. No conditions. -/
import Derived.Test.YtkdbagdiplpcfaaGreatDoorBunAE
import Derived.Test.YtkdbagdiplpcfaaGreatDoorBunAD

set_option linter.unusedSimpArgs false
set_option linter.unusedVariables false
set_option maxRecDepth 100000
set_option maxHeartbeats 16000000
namespace Go.Proofs.YtkdbagdiplpcfaaGreatDoor
open Go.Proofs.Tryz Go Go.RowKit Go.Lib Go.Shelf
theorem mx2 {P:Program} {f:FuncId} {fn:Func} (E:P.funcs[f]?=some fn) (C:(fn.name== "runtime.NumGoroutine")=false) (H:fn.body.isNone=true) (I:Extern.findNext fn=none)
  (J:Extern.find fn=some (Extern.Atomic.loadT .ptr)) {a:Addr} {x:Option Addr} {w:World} (O:w.cell? a=some (.pointer x)):
  (callFunc f #[.pointer (some a)]).run P w=.ok (.value (.pointer x)) w:=by
 rw[run_callFunc_extern E C H I J];change (Sem.run P (do Extern.Atomic.read .ptr (<-asAddr (.pointer (some a)))) w).andThen _=_;simp[Extern.Atomic.read,asAddr,O,Result.andThen]
theorem ix2 {P:Program} {f:FuncId} {fn:Func} (E:P.funcs[f]?=some fn) (C:(fn.name== "runtime.NumGoroutine")=false) (H:fn.body.isNone=true) (I:Extern.findNext fn=none)
  (J:Extern.find fn=some Extern.Atomic.storeT) {a:Addr} {y:Option Addr} {u:Value} {w:World} (O:w.cell? a=some u) (Q:w.frozen? a=false):
  (callFunc f #[.pointer (some a),.pointer y]).run P w=.ok (.value (.tuple #[])) (w.setCell a (.pointer y)):=by
 rw[run_callFunc_extern E C H I J];change (Sem.run P (do
  store (<-asAddr (.pointer (some a))) (.pointer y) .atomic
  pure Extern.Atomic.none_) w).andThen _=_
 simp[asAddr,O,Q,run_store P w a (.pointer y) .atomic rfl,Result.andThen,Extern.Atomic.none_]
theorem av5 (w:World):(convert 255 223 (.pointer none)).run prog w=.ok (.pointer none) w:=by
 have h1:prog.underlying 255=some .unsafePointer:=by kernel_rfl
 have h2:prog.underlying 223=some (.pointer 260):=by kernel_rfl
 simp[convert,Conv.unsafePointer,run_underlying h1,run_underlying h2,Result.andThen]
theorem uk4 {w:World} {b:Nat} {xs:List Value} (h:BoxO w 260 b xs) (C:xs.length=6):(convert 255 223 (.pointer (some ⟨b,0,none⟩))).run prog w=.ok (.pointer (some ⟨b,0,none⟩)) w:=by
 have h1:prog.underlying 255=some .unsafePointer:=by kernel_rfl
 have h2:prog.underlying 223=some (.pointer 260):=by kernel_rfl
 have h3:liesAt prog prog.depth 260 (6 / prog.cellsOf 260) 0 260 1=true:=by kernel_rfl
 have h4:w.shape? b=some (260,6):=by
  unfold World.shape?;rw[h];simp[C]
 simp[convert,Conv.unsafePointer,Conv.seenAt,viewAt,variablesAt,run_underlying h1,run_underlying h2,h4,h3,Result.andThen]
def cz4 (w:World):Option Addr->Prop
 |none=>True
 |some a=>∃b xs,a=⟨b,0,none⟩/\BoxO w 260 b xs/\xs.length=6
theorem tz5 {w:World} {v:Option Addr} (h:cz4 w v):(convert 255 223 (.pointer v)).run prog w=.ok (.pointer v) w:=by
 cases v with
 |none=>exact av5 w
 |some a=>
  obtain⟨b,xs,rfl,h1,h2⟩:=h;exact uk4 h1 h2
theorem qz5 {w:World} {v:Option Addr} (h:cz4 w v):(convert 223 255 (.pointer v)).run prog w=.ok (.pointer v) w:=by
 have h1:prog.underlying 255=some .unsafePointer:=by kernel_rfl
 have h2:prog.underlying 223=some (.pointer 260):=by kernel_rfl
 cases v with
 |none=>simp[convert,Conv.unsafePointer,run_underlying h1,run_underlying h2,Result.andThen]
 |some a=>
  obtain⟨b,xs,rfl,h3,h4⟩:=h;have C:w.cell? ⟨b,0,none⟩=some (xs[0]'o_):=by rw[h3.cell];exact h_ _
  exact run_convert_to_unsafe (P:=prog) h2 h1 (by kernel_rfl) C
theorem ej1 (g j:Nat) (v:Option Addr) (w:World) (C:w.cell? ⟨g,j,none⟩=some (.pointer v)) (E:cz4 w v):
  Calls prog 186 #[.pointer (some ⟨g,j,none⟩)] w fun e w'=>e=.returned (.pointer v)/\w'=w:=by
 have H:=mx2 (P:=prog) func241 (by kernel_rfl) (by kernel_rfl) (by kernel_rfl) (by kernel_rfl) C;have I:=tz5 E;go_enter func186,ntmps186;go_wp2;go_ret;exact⟨rfl,rfl⟩
theorem dw2 (g j:Nat) (u:Value) (v:Option Addr) (w:World) (C:w.cell? ⟨g,j,none⟩=some u) (E:w.frozen? ⟨g,j,none⟩=false) (H:cz4 w v):
  Calls prog 187 #[.pointer (some ⟨g,j,none⟩),.pointer v] w fun e w'=>e=.returned (.tuple #[])/\w'=w.setCell ⟨g,j,none⟩ (.pointer v):=by
 have I:=ix2 (P:=prog) func242 (by kernel_rfl) (by kernel_rfl) (by kernel_rfl) (by kernel_rfl) (y:=v) C E;have J:=qz5 H;go_enter func187,ntmps187;go_wp2;exact bodyPost_end (v:=.tuple #[]) (by simp[results,go_sem]) rfl ⟨rfl,rfl⟩
theorem fz5:(prog.info? 257).map (fun i=>(i.zero.map (·.cells),i.size,i.bytes))=some (some #[.pointer none],1,8):=by kernel_rfl
theorem yy3 (h:Nat) (U:h<=6):∃cs:Array Value,cs.toList=List.replicate h (.pointer none)/\∀W:World,(Instr.makeSlice 258 (.int .i64 (h:Int)) (.int .i64 (h:Int))).run prog W=.ok (.slice (some ⟨W.heap.size,0,none⟩) h h) (W.alloc (.cells cs 257)):=by
 obtain⟨i,hi,O⟩:=b1_.1 fz5;simp only[bW_]at O;obtain⟨C,E,H⟩:=O;obtain⟨z,I,J⟩:=b1_.1 C;refine⟨madeCells #[.pointer none] h,toList_madeCells_one _ h,fun W=>?_⟩;have Q:=run_make (P:=prog) W 258 257 i z underlying258 hi I .i64 .i64 h h o_ o_ (by rw[H];omega) o_;simpa [E,J] using Q
theorem oz4 {w W:World} {g:Nat} (E:Below w.heap.size w W) (x:It) (h:Nat) (cs:Array Value) (C:cs.toList=List.replicate h (.pointer none)) (H:W.heap.size=g):
  BoxO ((W.alloc (.cells cs 257)).alloc (.cells #[.int .i64 x.s,.int .i64 x.k,.int .u64 (x.t:Int),.int .u64 (x.v:Int),.int .i64 x.x,.slice (some ⟨g,0,none⟩) h h] 260)).drew 260 (g+1) (x.cells++[.slice (some ⟨g,0,none⟩) h h])/\
  BoxO ((W.alloc (.cells cs 257)).alloc (.cells #[.int .i64 x.s,.int .i64 x.k,.int .u64 (x.t:Int),.int .u64 (x.v:Int),.int .i64 x.x,.slice (some ⟨g,0,none⟩) h h] 260)).drew 257 g (List.replicate h (.pointer none))/\g+1≠g/\w.heap.size<=g+1/\w.heap.size<=g/\Below w.heap.size w ((W.alloc (.cells cs 257)).alloc (.cells #[.int .i64 x.s,.int .i64 x.k,.int .u64 (x.t:Int),.int .u64 (x.v:Int),.int .i64 x.x,.slice (some ⟨g,0,none⟩) h h] 260)).drew:=by
 have h1:(W.alloc (.cells cs 257)).heap.size=W.heap.size+1:=by simp
 have h2:=E.size;have h3:BoxO (W.alloc (.cells cs 257)) 257 W.heap.size (List.replicate h (.pointer none)):=C▸BoxO.new W cs 257;subst H;exact⟨by rw[<-h1];exact(BoxO.new _ _ _).drew,(h3.alloc _).drew,o_,o_,h2,ak ((E.alloc h2 _).alloc o_ _)⟩
theorem zy2 (x:It) (h:Nat) (w:World) (h1:1<=h) (E:h<=6):
  Calls prog 178 #[x.val,.int .i64 (h:Int)] w fun e w'=>∃b tb,e=.returned (.pointer (some ⟨b,0,none⟩))/\BoxO w' 260 b (x.cells++[.slice (some ⟨tb,0,none⟩) h h])/\BoxO w' 257 tb (List.replicate h (.pointer none))/\b≠tb/\w.heap.size<=b/\w.heap.size<=tb/\Below w.heap.size w w':=by
 obtain⟨cs,C,H⟩:=yy3 h E;have I:(1:Int)<=(h:Int):=o_
 have J:(h:Int)<=6:=o_
 unfold It.val;go_enter func178,ntmps178;go_wp2_with fail
 go_region
 all_goals go_wp2
 all_goals go_ret
 all_goals
  have O:=oz4 (g:=w.heap.size+1) (b_ w (.cells #[.int .i64 x.s,.int .i64 x.k,.int .u64 (x.t:Int),.int .u64 (x.v:Int),.int .i64 x.x] 49)) x h cs C s_;exact⟨_,_,rfl,O⟩
structure SkC (w:World) (ns:List Nd):Prop where
 node:∀n∈ns,BoxO w 260 n.b (n.x.cells++[.slice (some ⟨n.tb,0,none⟩) n.c n.c])
 tower:∀(i:Nat) (n:Nd),ns[i]?=some n->∃cs,BoxO w 257 n.tb cs/\cs.length=n.c/\∀l,l < n.h->cs[l]?=some (.pointer ((nxb l (ns.drop (i+1))).map fun b=>⟨b,0,none⟩))
 cap:∀n∈ns,n.h<=n.c/\n.c<=6
 apart:(ns.flatMap fun n=>[n.b,n.tb]).Nodup
structure SkAt (w:World) (L:Nat) (ns:List Nd):Prop where
 core:SkC w ns
 head:∃hd tl,ns=hd::tl/\hd.h=6/\BoxO w 225 L [.pointer (some ⟨hd.b,0,none⟩),.int .i64 (tl.length:Int)]
 out:L∉ns.flatMap fun n=>[n.b,n.tb]
 tall:∀n∈ns,1<=n.h
 rises:qx (its ns)
def skF (L:Nat) (ns:List Nd):List Nat:=L::ns.flatMap fun n=>[n.b,n.tb]
def bk (ns:List Nd) (j:Nat):Nat:=((ns[j]?).map (·.b)).getD 0
def pv (ns:List Nd) (j:Nat):Value:=.pointer (some ⟨bk ns j,0,none⟩)
theorem mk4 {ns:List Nd} {j:Nat} {n:Nd} (h:ns[j]?=some n):bk ns j=n.b:=by simp[bk,h]
variable {w w':World} {L:Nat} {ns:List Nd}
theorem SkC.chg {F:List Nat} (h:SkC w ns) (c:Chg F w w') (hF:∀g∈ns.flatMap (fun n=>[n.b,n.tb]),g∉F):SkC w' ns:=
 ⟨fun n C=>(h.node n C).chg c (hF _ (ac_.2 ⟨n,C,by simp⟩)),fun i n hi=>let ⟨cs,a,b,d⟩:=h.tower i n hi;⟨cs,a.chg c (hF _ (ac_.2 ⟨n,t_ hi,by simp⟩)),b,d⟩,h.cap,h.apart⟩
theorem SkAt.chg {F:List Nat} (h:SkAt w L ns) (c:Chg F w w') (hF:∀g∈skF L ns,g∉F):SkAt w' L ns:=
 ⟨h.core.chg c (fun g C=>hF g (e_ _ C)),let ⟨hd,tl,a,b,d⟩:=h.head;⟨hd,tl,a,b,d.chg c (hF L i_)⟩,h.out,h.tall,h.rises⟩
theorem SkAt.below (h:SkAt w L ns) (c:Below w.heap.size w w'):SkAt w' L ns:=h.chg (Chg.of_below c []) (fun _ _=>by simp)
theorem SkC.below (h:SkC w ns) (c:Below w.heap.size w w'):SkC w' ns:=h.chg (Chg.of_below c []) (fun _ _=>by simp)
theorem vk3 {l b:Nat} {r:List Nd} (h:nxb l r=some b):∃n,nxt l r=some n/\n.b=b:=by
 unfold nxb at h;exact b1_.1 h
theorem gx5 {l:Nat} {r:List Nd} (h:nxb l r=none):nxt l r=none:=by
 unfold nxb at h;exact Option.map_eq_none_iff.1 h
theorem SkC.ptr (h:SkC w ns) (l i:Nat):cz4 w ((nxb l (ns.drop i)).map fun b=>⟨b,0,none⟩):=by
 cases e:nxb l (ns.drop i) with
 |none=>exact trivial
 |some b=>
  obtain⟨n,h1,rfl⟩:=vk3 e;have C:n∈ns:=b8_ (ck_ h1);exact⟨_,_,rfl,h.node n C,rfl⟩
theorem SkC.look (h:SkC w ns) {i l:Nat} {n:Nd} (hi:ns[i]?=some n) (E:l < n.h):
  w.cell? ⟨n.b,5,none⟩=some (.slice (some ⟨n.tb,0,none⟩) n.c n.c)/\(w.cell? ⟨n.tb,l,none⟩=some (.pointer ((nxb l (ns.drop (i+1))).map fun b=>⟨b,0,none⟩))/\w.frozen? ⟨n.tb,l,none⟩=false)/\l < n.c/\n.c<=6:=by
 have C:=t_ hi;obtain⟨cs,h1,h2,h3⟩:=h.tower i n hi;have h4:=h.cap n C;refine⟨by rw[(h.node n C).cell];rfl,⟨by rw[h1.cell];exact h3 l E,h1.free l⟩,o_,h4.2⟩
def rk (ns:List Nd):Value->Nat
 |.pointer (some a)=>ns.length - ns.findIdx (fun n=>n.b==a.block)
 |_=>0
theorem SkC.inj (h:SkC w ns) {i j:Nat} {n m:Nd} (hi:ns[i]?=some n) (hj:ns[j]?=some m) (C:n.b=m.b):i=j:=by
 have key:∀(ns:List Nd) (i j:Nat) (n m:Nd),(ns.flatMap fun n=>[n.b,n.tb]).Nodup->ns[i]?=some n->ns[j]?=some m->n.b=m.b->i=j:=by
  intro ns
  induction ns with
  |nil=>intro i j n m _ hi;simp at hi
  |cons a r H=>
   intro i j n m hd hi hj C;simp only[S_,T_,C_,aW_,f_,not_or]at hd;obtain⟨⟨_,h2⟩,_,h4⟩:=hd;have E:∀(k:Nat) (u:Nd),r[k]?=some u->u.b≠a.b:=fun k u I e=>h2 (ac_.2 ⟨u,t_ I,by simp[e]⟩)
   cases i with
   |zero=>
    cases j with
    |zero=>rfl
    |succ j=>
     simp only[gE0,aC_,gE1]at hi hj;subst hi;exact absurd C.symm (E j m hj)
   |succ i=>
    cases j with
    |zero=>
     simp only[gE0,aC_,gE1]at hi hj;subst hj;exact absurd C (E i n hi)
    |succ j=>
     simp only[gE1]at hi hj;rw[H i j n m h4 hi hj C]
 exact key ns i j n m h.apart hi hj C
theorem SkC.rk (h:SkC w ns) {i:Nat} {n:Nd} (hi:ns[i]?=some n):rk ns (.pointer (some ⟨n.b,0,none⟩))=ns.length - i:=by
 unfold Go.Proofs.YtkdbagdiplpcfaaGreatDoor.rk;have C:i < ns.length:=(J_.1 hi).1;have h1:ns.findIdx (fun m=>m.b==n.b) < ns.length:=List.findIdx_lt_length_of_exists ⟨n,t_ hi,by simp⟩;have h2:(ns[ns.findIdx (fun m=>m.b==n.b)]).b=n.b:=by
  have:=bf_ (w:=h1);simpa using this
 have:=h.inj (h_ h1) hi h2;simp only;omega
section
theorem SkAt.lt {w:World} {L:Nat} {ns:List Nd} (h:SkAt w L ns):∀g∈skF L ns,g < w.heap.size:=by
 intro g C
 rcases f_.1 C with rfl|C
 ·obtain⟨_,_,_,_,H⟩:=h.head
  exact H.lt
 ·obtain⟨n,E,C⟩:=ac_.1 C
  simp only[f_,aL_,or_false]at C
  rcases C with rfl|rfl
  ·exact(h.core.node n E).lt
  ·obtain⟨i,hi⟩:=ba_.1 E
   obtain⟨cs,h1,_⟩:=h.core.tower i n hi;exact h1.lt
def oc (ns:List Nd) (J:Nat->Nat) (k:Nat):List Value:=(List.range 6).map fun l=>if k<=l then pv ns (J l) else .pointer none
theorem ny5 (ns:List Nd) (J:Nat->Nat) (k i:Nat) (C:k < 6):(oc ns J (k+1)).set k (pv ns i)=oc ns (fun l=>if l=k then i else J l) k:=by
 have e:k=0\/k=1\/k=2\/k=3\/k=4\/k=5:=o_
 rcases e with rfl|rfl|rfl|rfl|rfl|rfl<;>simp[oc,List.range,List.range.loop]
theorem cw6 {w:World} {g j k:Nat} {ns:List Nd} {J:Nat->Nat} (h:BoxO w 252 g (oc ns J k)) (hj:j < 6):∃u,w.cell? ⟨g,j,none⟩=some u:=by
 rw[h.cell];exact⟨_,h_ (by simpa [oc] using hj)⟩
theorem kz39 {P S a oi v} (h:Hv P S a oi v:=by intro w C;skip;go_simp;try (with_reducible rfl)):Hv P S a oi v:=h
theorem kz40 {P S a oi v} (h:Hv P S a oi v:=by intro w C;(obtain⟨⟨y0,y1,y2,y3,y4⟩,x0,x1,x2,x3,x4⟩:=KC.out w C);go_simp;try (with_reducible rfl)):Hv P S a oi v:=h
theorem dx4 (L q:Nat) (ns:List Nd) (x:It) (w:World) (h:SkAt w L ns) (hq:q=pos (its ns) x+1):
  Calls prog 185 #[.pointer (some ⟨L,0,none⟩),x.val] w fun e w'=>∃J:Nat->Nat,(∀l,l < 6->Pred ns l q (J l))/\e=.returned (.agg #[pv ns (J 0),pv ns (J 1),pv ns (J 2),pv ns (J 3),pv ns (J 4),pv ns (J 5)])/\Below w.heap.size w w':=by
 have e3:=h.lt;have hW:=((b_ w (.cells #[.int .i64 x.s,.int .i64 x.k,.int .u64 (x.t:Int),.int .u64 (x.v:Int),.int .i64 x.x] 49)).alloc s_ (.cells #[.pointer none,.pointer none,.pointer none,.pointer none,.pointer none,.pointer none] 252)).alloc (by simp;omega) (.cells #[.pointer none,.pointer none,.pointer none,.pointer none,.pointer none,.pointer none] 252);have d1:=h.below hW;have a5:BoxO (((w.alloc (.cells #[.int .i64 x.s,.int .i64 x.k,.int .u64 (x.t:Int),.int .u64 (x.v:Int),.int .i64 x.x] 49)).alloc (.cells #[.pointer none,.pointer none,.pointer none,.pointer none,.pointer none,.pointer none] 252)).alloc (.cells #[.pointer none,.pointer none,.pointer none,.pointer none,.pointer none,.pointer none] 252)) 49 w.heap.size x.cells:=((BoxO.new w #[.int .i64 x.s,.int .i64 x.k,.int .u64 (x.t:Int),.int .u64 (x.v:Int),.int .i64 x.x] 49).alloc _).alloc _;have e4:BoxO (((w.alloc (.cells #[.int .i64 x.s,.int .i64 x.k,.int .u64 (x.t:Int),.int .u64 (x.v:Int),.int .i64 x.x] 49)).alloc (.cells #[.pointer none,.pointer none,.pointer none,.pointer none,.pointer none,.pointer none] 252)).alloc (.cells #[.pointer none,.pointer none,.pointer none,.pointer none,.pointer none,.pointer none] 252)) 252 (w.heap.size+1) (oc ns (fun _=>0) 6):=by
  have:=(BoxO.new (w.alloc (.cells #[.int .i64 x.s,.int .i64 x.k,.int .u64 (x.t:Int),.int .u64 (x.v:Int),.int .i64 x.x] 49)) #[.pointer none,.pointer none,.pointer none,.pointer none,.pointer none,.pointer none] 252).alloc (.cells #[.pointer none,.pointer none,.pointer none,.pointer none,.pointer none,.pointer none] 252);simpa [oc,List.range,List.range.loop] using this
 have e5:BoxO (((w.alloc (.cells #[.int .i64 x.s,.int .i64 x.k,.int .u64 (x.t:Int),.int .u64 (x.v:Int),.int .i64 x.x] 49)).alloc (.cells #[.pointer none,.pointer none,.pointer none,.pointer none,.pointer none,.pointer none] 252)).alloc (.cells #[.pointer none,.pointer none,.pointer none,.pointer none,.pointer none,.pointer none] 252)) 252 (w.heap.size+2) (oc ns (fun _=>0) 6):=by
  have:=BoxO.new ((w.alloc (.cells #[.int .i64 x.s,.int .i64 x.k,.int .u64 (x.t:Int),.int .u64 (x.v:Int),.int .i64 x.x] 49)).alloc (.cells #[.pointer none,.pointer none,.pointer none,.pointer none,.pointer none,.pointer none] 252)) #[.pointer none,.pointer none,.pointer none,.pointer none,.pointer none,.pointer none] 252;simpa [oc,List.range,List.range.loop] using this
 obtain⟨hd,tl,b8,h6,hL⟩:=d1.head;have l0:=hL.c0;have e0:Value.pointer (some ⟨hd.b,0,none⟩)=pv ns 0:=by unfold pv;rw[mk4 (ns:=ns) (j:=0) (n:=hd) (by rw[b8];rfl)]
 have j4:q<=ns.length:=by
  have h1:=cx3 (its ns) x;have h2:(its ns).length+1=ns.length:=by rw[b8];simp[its]
  omega
 have E:=fun(k:Nat) (n:Nd) (hk:0 < k) (e:ns[k]?=some n)=>vz5 (x:=x) h.rises hk e;obtain⟨gs,e6⟩:=n_ w.heap.size;have e7:∀g∈skF L ns,g∉[gs+2]:=fun g U=>by have:=e3 g U;simp;omega
 have b9:=H_ d1;have e9:=H_ e7;have HW:=H_ hW;have h7:=H_ a5;have h8:=H_ e5;have h9:=H_ E;have j7:=H_ e0;have h':=H_ h6;have i0:=H_ b8;have HQ:=H_ hq;have e':=H_ e6;have i1:=H_ e4;clear d1 e7 hW a5 e4 e5 E e0 h6 b8 hq e6 e3 h hL;unfold It.val;go_enter func185,ntmps185;go_wp2_with fail;generalize hV:(((w.alloc (.cells #[.int .i64 x.s,.int .i64 x.k,.int .u64 (x.t:Int),.int .u64 (x.v:Int),.int .i64 x.x] 49)).alloc (.cells #[.pointer none,.pointer none,.pointer none,.pointer none,.pointer none,.pointer none] 252)).alloc (.cells #[.pointer none,.pointer none,.pointer none,.pointer none,.pointer none,.pointer none] 252))=V at *;clear hV l0
 go_loopw [6,7] (fun at_ hI wr=>∃(k i:Nat) (n:Nd) (J:Nat->Nat),hI=.int .i64 ((k:Int) - 1)/\at_=.pointer (some ⟨n.b,0,none⟩)/\Hid (k<=6/\ns[i]?=some n/\k<=n.h/\i < q/\∀l,k<=l->l < 6->Pred ns l q (J l))/\Hid (BoxO wr 252 (w.heap.size+2) (oc ns J k))/\Chg [w.heap.size+2] V wr) (fun _ hI _=>(intOf hI+1).toNat)
 case atStart=>exact⟨6,0,hd,fun _=>0,rfl,rfl,H_ ⟨y_ _,by rw[i0.out];rfl,by rw[h'.out];exact y_ _,by rw[HQ.out];omega,fun l h1 h2=>absurd h2 o_⟩,h8,Chg.refl _ _⟩
 case round=>
  obtain⟨k,i,n,J,rfl,rfl,HK,HB,hc⟩:=hrel
  cases k with
  |zero=>
   have j9:((0:Int)<=((0:Nat):Int) - 1)=False:=eq_false o_;have g5:=HB.out;have Z:=i1.out.chg hc s_;have o0:=g5.cell 0;have o1:=g5.cell 1;have o2:=g5.cell 2;have o3:=g5.cell 3;have o4:=g5.cell 4;have o5:=g5.cell 5;have r0:=Z.cell 0;have r1:=Z.cell 1;have r2:=Z.cell 2;have r3:=Z.cell 3;have r4:=Z.cell 4;have r5:=Z.cell 5;have f0:=Z.free 0;have f1:=Z.free 1;have f2:=Z.free 2;have f3:=Z.free 3;have f4:=Z.free 4;have f5:=Z.free 5;simp[oc,pv,List.range,List.range.loop]at o0 o1 o2 o3 o4 o5 r0 r1 r2 r3 r4 r5;have HC:=H_ (show Chg [w.heap.size+1,w.heap.size+2] w wr from (Chg.of_below HW.out _).trans (hc.mono (G:=[w.heap.size+1,w.heap.size+2]) (fun g U=>.inl (by rw[a_.1 U];simp))) (fun g U=>.inl U));clear Z g5 hc HB;go_wp2;refine bodyPost_ret (v:=.agg #[pv ns (J 0),pv ns (J 1),pv ns (J 2),pv ns (J 3),pv ns (J 4),pv ns (J 5)]) (by simp[results,go_sem,pv, *]) rfl ⟨J,fun l hl=>HK.out.2.2.2.2 l z_ hl,rfl,?_⟩;exact((((((HC.out.setCell _ (.inl s_)).setCell _ (.inl s_)).setCell _ (.inl s_)).setCell _ (.inl s_)).setCell _ (.inl s_)).setCell _ (.inl s_)).below l_ (fun g U=>by simp at U;omega)
  |succ j=>
   have i3:(((j+1:Nat):Int) - 1)=(j:Int):=o_
   rw[i3];have l1:(0:Int)<=(j:Int):=o_
   have l2:IntKind.i64.wrap (j:Int)=(j:Int):=D_ _ (by have:=HK.out.1;omega);have O:=b9.out.chg hc (fun g U=>by have:=e9.out g U;rwa [e'.out]at this);obtain⟨n5,⟨nl,nf⟩,nc,f7⟩:=O.core.look (l:=j) HK.out.2.1 (by have:=HK.out.2.2.1;omega);have f8:(j:Int) < (n.c:Int):=o_
   have a':=ej1 n.tb j _ wr nl (O.core.ptr j (i+1));have b0:=H_ a';have b':=H_ O;clear a' O nl nf;go_wp2_with fail;refine b0.out.mono ?_;rintro e w1 ⟨rfl,rfl⟩;clear b0;go_wp2_with fail;generalize f9:nxb j (ns.drop (i+1))=be;have f':=H_ f9;clear f9
   go_loopw [6,8] (fun d4 nx w2=>∃(i2:Nat) (n2:Nd) (b2:Option Nat),d4=.pointer (some ⟨n2.b,0,none⟩)/\nx=.pointer (b2.map fun b=>⟨b,0,none⟩)/\Hid (nxb j (ns.drop (i2+1))=b2/\ns[i2]?=some n2/\j < n2.h/\i2 < q)/\Hid (BoxO w2 252 (w.heap.size+2) (oc ns J (j+1)))/\Chg [w.heap.size+2] V w2) (fun d4 _ _=>rk ns d4)
   case atStart=>exact⟨i,n,be,rfl,rfl,H_ ⟨f'.out,HK.out.2.1,by have:=HK.out.2.2.1;omega,HK.out.2.2.2.1⟩,HB,hc⟩
   case round=>
    clear HB b' hc f' n5 f8 nc f7;obtain⟨i2,n2,b2,rfl,rfl,H,HB,hc⟩:=hrel;have O:=b9.out.chg hc (fun g U=>by have:=e9.out g U;rwa [e'.out]at this);have a5:=h7.out.chg hc s_
    cases b2 with
    |none=>
     simp only[cx_];go_wp2_with fail;refine w_h wr fun C=>?_;refine w_v 0 C ?_ (k:=kz39);go_simp;refine w_v 1 C ?_ (k:=kz39);go_simp;refine w_v 2 C ?_ (k:=kz39);go_simp;refine wpT0 (i:=3) C ?_;go_simp;refine wpT0 (i:=4) C ?_;go_simp;refine wpT0 (i:=5) C ?_;go_simp;refine wpT0 (i:=6) C ?_;go_simp;refine wpT0 (i:=7) C ?_;go_simp;refine wpT0 (i:=8) C ?_;go_simp;refine w_v 9 C ?_ (k:=kz39);go_simp;refine w_d ?_;have HP:=H_ (show Pred ns j q i2 from ⟨H.out.2.2.2,⟨n2,H.out.2.1,H.out.2.2.1⟩,fun m n' h1 h2 h3=>jw5 (gx5 H.out.1) m n' h1 h3⟩);have Q:=C;clear C O a5;generalize d5:wr.drew=X at *;clear d5;have a1:Chg [w.heap.size+2] V X:=hc.trans (Chg.of_below Q [w.heap.size+2]) (fun g U=>.inl U);have I:=HB.out.below Q;have a6:j < 6:=by have:=HK.out.1;omega
     obtain⟨u,hu⟩:=cw6 I a6;have hz:=I.free j;have b1:BoxO (X.setCell ⟨w.heap.size+2,j,none⟩ (.pointer (some ⟨n2.b,0,none⟩))) 252 (w.heap.size+2) (oc ns (fun l=>if l=j then i2 else J l) j):=by
      have e:=I.store j (.pointer (some ⟨n2.b,0,none⟩));have e2:=ny5 ns J j i2 a6;rw[show pv ns i2=Value.pointer (some ⟨n2.b,0,none⟩) by unfold pv;rw[mk4 H.out.2.1]]at e2;rw[<-e2];exact e
     have b5:Chg [w.heap.size+2] V (X.setCell ⟨w.heap.size+2,j,none⟩ (.pointer (some ⟨n2.b,0,none⟩))):=a1.setCell _ (.inl s_);have i4:(j:Int) < 6:=o_
     have HF:=H_ (c_ (show ∀l,j<=l->l < 6->Pred ns l q (if l=j then i2 else J l) from fun l h1 h2=>by
      by_cases hl:l=j
      ·subst hl
       rw[if_pos rfl];exact HP.out
      ·rw[if_neg hl]
       exact HK.out.2.2.2.2 l o_ h2) (c_ b1 b5))
     clear I b1 a1 b5 a6 Q HP;go_wp2;go_roundw
     case rel=>exact⟨j,i2,n2,_,by go_num,rfl,H_ ⟨by have:=HK.out.1;omega,H.out.2.1,by have:=H.out.2.2.1;omega,H.out.2.2.2,HF.out.1⟩,H_ (by exact HF.out.2.1),HF.out.2.2⟩
     case measure=>simp[intOf] <;>omega
    |some b=>
     obtain⟨n3,h3,rfl⟩:=vk3 H.out.1;obtain⟨k3,g1,g2,g3,Z⟩:=dy5 h3;have c9:=h9.out k3 n3 o_ g2;rw[<-HQ.out]at c9;have E:=fun W=>fz1 n3.x x W;rw[c9]at E;have d6:=O.core.node n3 (t_ g2);generalize g7:n3.x=y at *;have c':∀w',Below wr.heap.size wr w'->(w'.cell? ⟨n3.b,0,none⟩=some (.int .i64 y.s)/\w'.cell? ⟨n3.b,1,none⟩=some (.int .i64 y.k)/\w'.cell? ⟨n3.b,2,none⟩=some (.int .u64 (y.t:Int))/\w'.cell? ⟨n3.b,3,none⟩=some (.int .u64 (y.v:Int))/\w'.cell? ⟨n3.b,4,none⟩=some (.int .i64 y.x))/\(w'.cell? ⟨w.heap.size,0,none⟩=some (.int .i64 x.s)/\w'.cell? ⟨w.heap.size,1,none⟩=some (.int .i64 x.k)/\w'.cell? ⟨w.heap.size,2,none⟩=some (.int .u64 (x.t:Int))/\w'.cell? ⟨w.heap.size,3,none⟩=some (.int .u64 (x.v:Int))/\w'.cell? ⟨w.heap.size,4,none⟩=some (.int .i64 x.x)):=fun w' hb=>by
      have e1:=d6.below hb;have e2:=a5.below hb;exact⟨⟨e1.cell 0,e1.cell 1,e1.cell 2,e1.cell 3,e1.cell 4⟩,e2.cell 0,e2.cell 1,e2.cell 2,e2.cell 3,e2.cell 4⟩
     unfold It.val at E
     by_cases d7:k3 < q
     ·have b6:decide (k3 < q)=true:=decide_eq_true d7
      rw[b6]at E;have a2:=H_ E;have KC:=H_ c';have H3:=H_ (c_ g2 g3);have H4:=H_ g1;have b':=H_ O;clear E c' c9 b6 g7 d6 a5 O g1 g2 g3 Z h3;go_wp2_with fail;simp only[a3_];refine w_h wr fun C=>?_;refine w_v 0 C ?_ (k:=kz40);go_simp;refine w_v 1 C ?_ (k:=kz40);go_simp;refine w_v 2 C ?_ (k:=kz40);go_simp;refine w_v 3 C ?_ (k:=kz40);go_simp;refine w_v 4 C ?_ (k:=kz40);go_simp;refine w_v 5 C ?_ (k:=kz40);go_simp;refine w_v 6 C ?_ (k:=kz40);go_simp;refine w_v 7 C ?_ (k:=kz40);go_simp;refine w_r 8 fun K hK=>?_;go_simp
      with_reducible refine(a2.out _).mono ?_
      rintro e w3 ⟨rfl,I⟩;go_simp;refine hK.out _ _ (C.trans (I.mono C.size)) ?_;clear C hK K;intro C;go_simp;refine w_v 9 C ?_ (k:=kz40);go_simp;refine w_d ?_;have Q:=C;clear C KC a2;have O:=b'.out.below Q;generalize w3=X at *;have a1:Chg [w.heap.size+2] V X:=hc.trans (Chg.of_below Q [w.heap.size+2]) (fun g U=>.inl U);have I:=HB.out.below Q;obtain⟨n5,⟨nl,nf⟩,nc,f7⟩:=O.core.look H3.out.1 H3.out.2;have f8:(j:Int) < (n3.c:Int):=o_
      have a':=ej1 n3.tb j _ X nl (O.core.ptr j (k3+1));have b0:=H_ a';have HF:=H_ (c_ I a1);clear a' O nl nf I a1 b';go_wp2_with fail;refine b0.out.mono ?_;rintro e w1 ⟨rfl,rfl⟩;clear b0;have hm:rk ns (.pointer (some ⟨n3.b,0,none⟩)) < rk ns (.pointer (some ⟨n2.b,0,none⟩)):=by
       rw[b9.out.core.rk H3.out.1,b9.out.core.rk H.out.2.1];have h1:=(J_.1 H3.out.1).1;have h2:=H4.out;omega
      go_wp2;go_roundw
      case rel=>exact⟨k3,n3,_,rfl,rfl,H_ ⟨rfl,H3.out.1,H3.out.2,d7⟩,H_ HF.out.1,HF.out.2⟩
      case measure=>exact hm
     ·have b6:decide (k3 < q)=false:=decide_eq_false d7
      rw[b6]at E;have a2:=H_ E;have KC:=H_ c';have HP:=H_ (show Pred ns j q i2 from ⟨H.out.2.2.2,⟨n2,H.out.2.1,H.out.2.2.1⟩,fun m n' h1 h2 h3=>Z m n' h1 o_ h3⟩);clear E c' c9 b6 g7 d6 a5 O g1 g2 g3 Z h3;go_wp2_with fail;simp only[a3_];refine w_h wr fun C=>?_;refine w_v 0 C ?_ (k:=kz40);go_simp;refine w_v 1 C ?_ (k:=kz40);go_simp;refine w_v 2 C ?_ (k:=kz40);go_simp;refine w_v 3 C ?_ (k:=kz40);go_simp;refine w_v 4 C ?_ (k:=kz40);go_simp;refine w_v 5 C ?_ (k:=kz40);go_simp;refine w_v 6 C ?_ (k:=kz40);go_simp;refine w_v 7 C ?_ (k:=kz40);go_simp;refine w_r 8 fun K hK=>?_;go_simp
      with_reducible refine(a2.out _).mono ?_
      rintro e w3 ⟨rfl,I⟩;go_simp;refine hK.out _ _ (C.trans (I.mono C.size)) ?_;clear C hK K;intro C;go_simp;refine w_v 9 C ?_ (k:=kz40);go_simp;refine w_d ?_;have Q:=C;clear C KC a2;generalize d5:w3=X at *;clear d5;have a1:Chg [w.heap.size+2] V X:=hc.trans (Chg.of_below Q [w.heap.size+2]) (fun g U=>.inl U);have I:=HB.out.below Q;have a6:j < 6:=by have:=HK.out.1;omega
      obtain⟨u,hu⟩:=cw6 I a6;have hz:=I.free j;have b1:BoxO (X.setCell ⟨w.heap.size+2,j,none⟩ (.pointer (some ⟨n2.b,0,none⟩))) 252 (w.heap.size+2) (oc ns (fun l=>if l=j then i2 else J l) j):=by
       have e:=I.store j (.pointer (some ⟨n2.b,0,none⟩));have e2:=ny5 ns J j i2 a6;rw[show pv ns i2=Value.pointer (some ⟨n2.b,0,none⟩) by unfold pv;rw[mk4 H.out.2.1]]at e2;rw[<-e2];exact e
      have b5:Chg [w.heap.size+2] V (X.setCell ⟨w.heap.size+2,j,none⟩ (.pointer (some ⟨n2.b,0,none⟩))):=a1.setCell _ (.inl s_);have i4:(j:Int) < 6:=o_
      have HF:=H_ (c_ (show ∀l,j<=l->l < 6->Pred ns l q (if l=j then i2 else J l) from fun l h1 h2=>by
       by_cases hl:l=j
       ·subst hl
        rw[if_pos rfl];exact HP.out
       ·rw[if_neg hl]
        exact HK.out.2.2.2.2 l o_ h2) (c_ b1 b5))
      clear I b1 a1 b5 a6 Q HP;go_wp2;go_roundw
      case rel=>exact⟨j,i2,n2,_,by go_num,rfl,H_ ⟨by have:=HK.out.1;omega,H.out.2.1,by have:=H.out.2.2.1;omega,H.out.2.2.2,HF.out.1⟩,H_ (by exact HF.out.2.1),HF.out.2.2⟩
      case measure=>simp[intOf] <;>omega
theorem tx1:∀(ns:List Nd) (i j:Nat) (n m:Nd),(ns.flatMap fun n=>[n.b,n.tb]).Nodup->ns[i]?=some n->ns[j]?=some m->(n.b=m.b->i=j)/\(n.tb=m.tb->i=j)/\n.b≠m.tb:=by
 intro ns
 induction ns with
 |nil=>intro i j n m _ hi;simp at hi
 |cons a r O=>
  intro i j n m hd hi hj;simp only[S_,T_,C_,aW_,f_,not_or]at hd;obtain⟨⟨h1,h2⟩,h3,h4⟩:=hd;have C:∀(k:Nat) (u:Nd),r[k]?=some u->u.b≠a.b/\u.tb≠a.b/\u.b≠a.tb/\u.tb≠a.tb:=fun k u E=>
   ⟨fun e=>h2 (ac_.2 ⟨u,t_ E,by simp[e]⟩),fun e=>h2 (ac_.2 ⟨u,t_ E,by simp[e]⟩),fun e=>h3 (ac_.2 ⟨u,t_ E,by simp[e]⟩),fun e=>h3 (ac_.2 ⟨u,t_ E,by simp[e]⟩)⟩
  cases i with
  |zero=>
   cases j with
   |zero=>
    simp only[gE0,aC_]at hi hj;subst hi hj;exact⟨fun _=>rfl,fun _=>rfl,h1⟩
   |succ j=>
    simp only[gE0,aC_,gE1]at hi hj;subst hi;obtain⟨H,J,a3,I⟩:=C j m hj;exact⟨fun e=>absurd e.symm H,fun e=>absurd e.symm I,fun e=>J e.symm⟩
  |succ i=>
   cases j with
   |zero=>
    simp only[gE0,aC_,gE1]at hi hj;subst hj;obtain⟨H,J,a3,I⟩:=C i n hi;exact⟨fun e=>absurd e H,fun e=>absurd e I,a3⟩
   |succ j=>
    simp only[gE1]at hi hj;obtain⟨b1,b2,Q⟩:=O i j n m h4 hi hj;exact⟨fun e=>by rw[b1 e],fun e=>by rw[b2 e],Q⟩
variable {w w':World} {L l j:Nat} {ns A R:List Nd} {n p:Nd}
theorem SkC.raise (h:SkC w (A++n::R)) (hn:n.h=l) (hl:l < n.c) (hj:Pred (A++n::R) l A.length j) (Z:(A++n::R)[j]?=some p):
  SkC ((w.setCell ⟨n.tb,l,none⟩ (.pointer ((nxb l ((A++n::R).drop (j+1))).map fun b=>⟨b,0,none⟩))).setCell ⟨p.tb,l,none⟩ (.pointer (some ⟨n.b,0,none⟩))) (A++{ n with h:=l+1 }::R):=by
 have b0:=hj.lt;have E:(A++n::R)[A.length]?=some n:=by simp
 obtain⟨p',a2,b1⟩:=hj.on;obtain rfl:p'=p:=by rw[Z]at a2;exact(ai_ a2).symm
 have I:=fun(i k:Nat) (a b:Nd)=>tx1 (A++n::R) i k a b h.apart;have a4:p'.tb≠n.tb:=fun e=>by have:=(I j A.length p' n Z E).2.1 e;omega
 have hc:Chg [n.tb,p'.tb] w ((w.setCell ⟨n.tb,l,none⟩ (.pointer ((nxb l ((A++n::R).drop (j+1))).map fun b=>⟨b,0,none⟩))).setCell ⟨p'.tb,l,none⟩ (.pointer (some ⟨n.b,0,none⟩))):=((Chg.refl _ w).setCell _ (.inl s_)).setCell _ (.inl s_);have O:∀(i:Nat) (m:Nd),i≠A.length->((A++{ n with h:=l+1 }::R)[i]?=some m↔(A++n::R)[i]?=some m):=fun i m hi=>by
  rcases ah_ i A.length with h1|h1
  ·rw[O_ h1,O_ h1]
  ·rw[aj_ h1,aj_ h1]
   obtain⟨d,hd⟩:∃d,i - A.length=d+1:=⟨i - A.length - 1,o_⟩;rw[hd,gE1,gE1]
 have U:(A++{ n with h:=l+1 }::R)[A.length]?=some { n with h:=l+1 }:=by simp
 have hr:=fun(i J:Nat) (m:Nd) (hm:(A++{ n with h:=l+1 }::R)[i]?=some m) (C:J < m.h)=>Go.Proofs.YtkdbagdiplpcfaaGreatDoor.raise (n':={ n with h:=l+1 }) hj hn rfl rfl i J m hm C;refine⟨fun m hm=>?_,fun i m hi=>?_,fun m hm=>?_,?_⟩
 ·obtain⟨i,hi⟩:=ba_.1 hm
  by_cases H:i=A.length
  ·subst H
   rw[U]at hi;obtain rfl:=ai_ hi;refine(h.node n (t_ E)).chg hc ?_;simp only[f_,aL_,or_false,not_or];exact⟨(I _ _ _ _ E E).2.2,(I _ _ _ _ E Z).2.2⟩
  ·rw[O i m H]at hi
   refine(h.node m (t_ hi)).chg hc ?_;simp only[f_,aL_,or_false,not_or];exact⟨(I _ _ _ _ hi E).2.2,(I _ _ _ _ hi Z).2.2⟩
 ·by_cases H:i=A.length
  ·subst H
   rw[U]at hi;obtain rfl:=ai_ hi;obtain⟨cs,h1,h2,h3⟩:=h.tower A.length n E;refine⟨_,(h1.store l _).chg (xw _ ⟨p'.tb,l,none⟩ _) (by simpa using fun e=>a4 e.symm),by rw[aE_];exact h2,fun J C=>?_⟩;rw[hr A.length J _ U C,if_neg o_]
   by_cases a1:J=l
   ·subst a1
    rw[if_pos ⟨rfl,rfl⟩,bx_ o_]
   ·rw[if_neg o_,bF_ o_]
    simp only at C;exact h3 J o_
  ·have Q:=(O i m H).1 hi
   obtain⟨cs,h1,h2,h3⟩:=h.tower i m Q
   by_cases a6:i=j
   ·subst a6
    rw[Z]at Q;obtain rfl:=ai_ Q;refine⟨_,(h1.chg (xw w ⟨n.tb,l,none⟩ _) (by simpa using a4)).store l _,by rw[aE_];exact h2,fun J C=>?_⟩;rw[hr i J _ hi C];have:=(h.cap p' (t_ Z)).1
    by_cases a1:J=l
    ·subst a1
     rw[if_pos ⟨rfl,rfl⟩,bx_ o_];rfl
    ·rw[if_neg o_,if_neg o_,bF_ o_]
     exact h3 J C
   ·refine⟨cs,h1.chg hc ?_,h2,fun J C=>?_⟩
    ·simp only[f_,aL_,or_false,not_or]
     exact⟨fun e=>H ((I _ _ _ _ Q E).2.1 e),fun e=>a6 ((I _ _ _ _ Q Z).2.1 e)⟩
    ·rw[hr i J _ hi C,if_neg o_,if_neg o_]
     exact h3 J C
 ·obtain⟨i,hi⟩:=ba_.1 hm
  by_cases H:i=A.length
  ·subst H
   rw[U]at hi;obtain rfl:=ai_ hi;exact⟨hl,(h.cap n (t_ E)).2⟩
  ·exact h.cap m (t_ ((O i m H).1 hi))
 ·have:=h.apart
  simpa using this
theorem SkC.insert (h:SkC w (A++R)) (J:n.h=0) (O:n.c<=6) (Q:BoxO w 260 n.b (n.x.cells++[.slice (some ⟨n.tb,0,none⟩) n.c n.c])) (U:BoxO w 257 n.tb (List.replicate n.c (.pointer none))) (H:n.b≠n.tb)
  (h1:n.b∉(A++R).flatMap fun n=>[n.b,n.tb]) (h2:n.tb∉(A++R).flatMap fun n=>[n.b,n.tb]):SkC w (A++n::R):=by
 have C:∀m,m∈A++n::R↔m=n\/m∈A++R:=fun m=>by simp[or_left_comm]
 refine⟨fun m I=>?_,fun i m hi=>?_,fun m I=>?_,?_⟩
 ·rcases (C m).1 I with rfl|h3
  ·exact Q
  ·exact h.node m h3
 ·have key:∀l,nxb l ((A++n::R).drop (i+1))=nxb l ((A++R).drop (if i < A.length then i+1 else i)):=fun l=>by
   rcases ah_ i A.length with h3|h3
   ·rw[if_pos h3,au_ o_,au_ o_]
    exact tw5 J
   ·have Z:A.drop (i+1)=[]:=aG_ o_
    have e2:A.drop i=[]:=aG_ o_;rw[if_neg o_,bK_,bK_,Z,e2,C_,C_,show i+1 - A.length=(i - A.length)+1 by omega,bM_]
  rcases Nat.lt_trichotomy i A.length with h3|h3|h3
  ·rw[O_ h3]at hi
   obtain⟨cs,a,b,c⟩:=h.tower i m (by rw[O_ h3];exact hi);exact⟨cs,a,b,fun l E=>by rw[key,if_pos h3];exact c l E⟩
  ·subst h3
   rw[aj_ l_,bQ_,gE0]at hi;obtain rfl:=ai_ hi;exact⟨_,U,by simp,fun l E=>o_⟩
  ·obtain⟨k,rfl⟩:∃k,i=A.length+k+1:=⟨i - A.length - 1,o_⟩
   rw[aj_ o_,show A.length+k+1 - A.length=k+1 by omega,gE1]at hi;obtain⟨cs,a,b,c⟩:=h.tower (A.length+k) m (by rw[aj_ o_,show A.length+k - A.length=k by omega];exact hi);exact⟨cs,a,b,fun l E=>by rw[key,if_neg o_];exact c l E⟩
 ·rcases (C m).1 I with rfl|h3
  ·exact⟨o_,O⟩
  ·exact h.cap m h3
 ·have h3:=h.apart
  rw[a8_]at h3 h1 h2 ⊢;rw[S_];refine(List.perm_append_comm_assoc _ _ _).nodup_iff.2 ?_;simp only[T_,C_,aW_,f_,not_or];exact⟨⟨H,h1⟩,h2,h3⟩
theorem SkAt.setx {k:Nat} {x:It} (h:SkAt w L ns) (C:ns[k+1]?=some n) (hR:qx ((its ns).set k x)) (c:Chg [n.b] w w') (hb:BoxO w' 260 n.b (x.cells++[.slice (some ⟨n.tb,0,none⟩) n.c n.c])):
  SkAt w' L (ns.set (k+1) { n with x:=x })/\its (ns.set (k+1) { n with x:=x })=(its ns).set k x/\skF L (ns.set (k+1) { n with x:=x })=skF L ns:=by
 have a':k+1 < ns.length:=(J_.1 C).1;have b0:ns[k+1]=n:=(J_.1 C).2;have I:∀ns:List Nd,∀(k:Nat) (n:Nd),ns[k]?=some n->(ns.set k { n with x:=x }).flatMap (fun n=>[n.b,n.tb])=ns.flatMap fun n=>[n.b,n.tb]:=by
  intro ns
  induction ns with
  |nil=>intro k n h;simp at h
  |cons a r ih=>
   intro k n h
   cases k with
   |zero=>
    simp only[gE0,aC_]at h;subst h;simp
   |succ k=>
    rw[gE1]at h;simp[ih k n h]
 have J:∀ns:List Nd,∀(k l i:Nat) (n:Nd),ns[k]?=some n->nxb l ((ns.set k { n with x:=x }).drop i)=nxb l (ns.drop i):=by
  intro ns k l i n h;have Z:k < ns.length:=(J_.1 h).1;have hg:ns[k]=n:=(J_.1 h).2
  rcases ah_ k i with h1|h1
  ·rw[List.drop_set_of_lt h1]
  ·rw[cC_,if_neg o_,a2_,if_pos (by rw[I_];omega)]
   have e:ns.drop i=(ns.drop i).take (k - i)++n::(ns.drop i).drop (k - i+1):=by
    have h2:k - i < (ns.drop i).length:=by rw[I_];omega
    have h3:(ns.drop i)[k - i]=n:=by rw[List.getElem_drop,<-hg];congr 1;omega
    rw[<-h3,bZ_,al_]
   conv=>rhs;rw[e]
   exact tv3 rfl Iff.rfl
 have O:=fun(i:Nat) (a:Nd) (hi:ns[i]?=some a)=>tx1 ns i (k+1) a n h.core.apart hi C;have H:its (ns.set (k+1) { n with x:=x })=(its ns).set k x:=by
  unfold its;rw[cC_,if_neg o_,bU_,List.map_set]
 have E:∀(i:Nat) (m:Nd),(ns.set (k+1) { n with x:=x })[i]?=some m->(i=k+1/\m={ n with x:=x })\/(i≠k+1/\ns[i]?=some m):=fun i m hi=>by
  by_cases Q:i=k+1
  ·subst Q
   rw[bx_ o_]at hi;exact .inl ⟨rfl,(ai_ hi).symm⟩
  ·rw[bF_ o_]at hi
   exact .inr ⟨Q,hi⟩
 have a0:n.tb∉[n.b]:=by
  have:=(O (k+1) n C).2.2;simpa using this.symm
 obtain⟨hd,tl,a4,h6,hL⟩:=h.head;have a5:L∉[n.b]:=fun e=>h.out (ac_.2 ⟨n,t_ C,by rw[a_.1 e];simp⟩);refine⟨⟨⟨fun m U=>?_,fun i m hi=>?_,fun m U=>?_,?_⟩,⟨hd,tl.set k { n with x:=x },by rw[a4,aD_],h6,by rw[aE_];exact hL.chg c a5⟩,?_,fun m U=>?_,?_⟩,H,?_⟩
 ·obtain⟨i,hi⟩:=ba_.1 U
  rcases E i m hi with ⟨rfl,rfl⟩|⟨h1,h2⟩
  ·exact hb
  ·exact(h.core.node m (t_ h2)).chg c (by simpa using fun e=>h1 ((O i m h2).1 e))
 ·rcases E i m hi with ⟨rfl,rfl⟩|⟨h1,h2⟩
  ·obtain⟨cs,a1,a2,a3⟩:=h.core.tower _ n C
   exact⟨cs,a1.chg c a0,a2,fun l Z=>by rw[J ns (k+1) l _ n C];exact a3 l Z⟩
  ·obtain⟨cs,a1,a2,a3⟩:=h.core.tower i m h2
   exact⟨cs,a1.chg c (by simpa using fun e=>(tx1 ns (k+1) i n m h.core.apart C h2).2.2 e.symm),a2,fun l Z=>by rw[J ns (k+1) l _ n C];exact a3 l Z⟩
 ·obtain⟨i,hi⟩:=ba_.1 U
  rcases E i m hi with ⟨rfl,rfl⟩|⟨h1,h2⟩
  ·exact h.core.cap n (t_ C)
  ·exact h.core.cap m (t_ h2)
 ·rw[I ns (k+1) n C]
  exact h.core.apart
 ·rw[I ns (k+1) n C]
  exact h.out
 ·obtain⟨i,hi⟩:=ba_.1 U
  rcases E i m hi with ⟨rfl,rfl⟩|⟨h1,h2⟩
  ·exact h.tall n (t_ C)
  ·exact h.tall m (t_ h2)
 ·rw[H]
  exact hR
 ·unfold skF
  rw[I ns (k+1) n C]
end
end Go.Proofs.YtkdbagdiplpcfaaGreatDoor
