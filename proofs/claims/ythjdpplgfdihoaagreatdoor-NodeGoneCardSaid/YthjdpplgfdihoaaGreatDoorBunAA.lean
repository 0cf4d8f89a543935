/- Texts Tk, Mem, Bits, PlainSum, SumA, Chg, PlainNum, Seal, NumA in one. No conditions. -/
import Derived.Lib.Hide
import Derived.RangeFuncRecord
import Derived.Deep.RegionHeld3
import Derived.ProofKit
import Derived.Deep.AppendLies
import Derived.Test.YthjdpplgfdihoaaGreatDoorRows
import Derived.WalkSpells
import Derived.WalkLawsBesides

set_option linter.unusedSimpArgs false
set_option linter.unusedVariables false
set_option maxRecDepth 100000
set_option maxHeartbeats 16000000
namespace Go.Proofs.YthjdpplgfdihoaaGreatDoor
section
open Go
variable {P:Program} {ops:Array Oper} {Q:Exit→Act→World→Prop} {md:Region.Mode} {S:World→Prop}
theorem wpT {i:Nat} {oi:Oper} {v:Value} {fuel:Nat} {listed:Array Bool} {a:Act} {w:World}
  (hv:∀w,S w→(execOp a.eval oi).run P w=.ok (.value v) w) (hS:S w)
  (h:wpAnyH P md ops Q S fuel (listed.setIfInBounds i true) (a.put oi.dst v) w)
  (hi:ops[i]?=some oi:=by exact rfl) (hs:Region.noSelect ops=true:=by kernel_rfl) (hf:Region.free md ops listed i=true:=by kernel_rfl) (hr:(Region.ready md ops listed).contains i=true:=by kernel_rfl)
  (hQ:∀c a w,Q (.panic c) (a.put oi.dst v) w→Q (.panic c) a w:=by exact fun _ _ _ h=>h)
  (hw:Region.wanted oi (yielded ops a.tmps)=true:=by rfl):wpAnyH P md ops Q S (fuel+1) listed a w:=
 wpAnyH_take hi hs hf hr hQ (Or.inl ⟨hw,hv⟩) hS h
theorem wpT0 {i:Nat} {oi:Oper} {fuel:Nat} {listed:Array Bool} {a:Act} {w:World} (hS:S w)
  (h:wpAnyH P md ops Q S fuel (listed.setIfInBounds i true) (a.put oi.dst undef) w)
  (hi:ops[i]?=some oi:=by exact rfl) (hs:Region.noSelect ops=true:=by kernel_rfl) (hf:Region.free md ops listed i=true:=by kernel_rfl) (hr:(Region.ready md ops listed).contains i=true:=by kernel_rfl)
  (hQ:∀c a w,Q (.panic c) (a.put oi.dst undef) w→Q (.panic c) a w:=by exact fun _ _ _ h=>h)
  (hw:Region.wanted oi (yielded ops a.tmps)=false:=by rfl):wpAnyH P md ops Q S (fuel+1) listed a w:=
 wpAnyH_take hi hs hf hr hQ (Or.inr ⟨hw,rfl⟩) hS h
abbrev Hv (P:Program) (S:World→Prop) (a:Act) (oi:Oper) (v:Value):Prop:=∀w,S w→(execOp a.eval oi).run P w=.ok (.value v) w
theorem w_v (i:Nat) {oi:Oper} {v:Value} {fuel:Nat} {listed:Array Bool} {a:Act} {w:World} (hS:S w)
  (h:wpAnyH P md ops Q S fuel (listed.setIfInBounds i true) (a.put oi.dst v) w)
  (hi:ops[i]?=some oi:=by exact rfl) (hs:Region.noSelect ops=true:=by kernel_rfl) (hf:Region.free md ops listed i=true:=by kernel_rfl) (hr:(Region.ready md ops listed).contains i=true:=by kernel_rfl)
  (hQ:∀c a w,Q (.panic c) (a.put oi.dst v) w→Q (.panic c) a w:=by exact fun _ _ _ h=>h)
  (hw:Region.wanted oi (yielded ops a.tmps)=true:=by rfl) (k:Hv P S a oi v):wpAnyH P md ops Q S (fuel+1) listed a w:=
 wpT k hS h hi hs hf hr hQ hw
theorem w_r (i:Nat) {o:Oper} {fuel:Nat} {listed:Array Bool} {a:Act} {w:World}
  (h:∀K:Act→World→Prop,Shut (∀a w,S w→(S w→wpAnyH P md ops Q S fuel (listed.setIfInBounds i true) a w)→K a w)→if Region.wanted o (yielded ops a.tmps)=true then Oper.wp P o a w K Q else K (a.put o.dst undef) w)
  (hi:ops[i]?=some o:=by exact rfl) (hr:Region.ready md ops listed=[i]:=by kernel_rfl):wpAnyH P md ops Q S (fuel+1) listed a w:=
 wpAnyH_ready hr (by simp) (AllReadyH.cons hi h AllReadyH.nil)
theorem gE0 {α:Type _} {a:α} {l:List α}:(a::l)[0]?=some a:=List.getElem?_cons_zero
theorem gE1 {α:Type _} {a:α} {l:List α} {i:Nat}:(a::l)[i+1]?=l[i]?:=List.getElem?_cons_succ
theorem b_ (w:World) (o:Obj):RowKit.Below w.heap.size w (w.alloc o):=(RowKit.Below.refl w.heap.size w).alloc (Nat.le_refl _) o
theorem b0_ {B:Nat} {w:World}:RowKit.Below B w w:=RowKit.Below.refl _ _
theorem l_ {n:Nat}:n≤n:=Nat.le_refl n
theorem z_ {n:Nat}:0≤n:=Nat.zero_le n
theorem n_ {α:Sort _} (x:α):∃a,a=x:=⟨_,rfl⟩
theorem H_ {p:Prop} (h:p):RowKit.Hid p:=h
abbrev c_:=@List.mem_singleton
abbrev d_:=@And.intro
abbrev e_:=@List.length_append
abbrev f_:=@List.mem_cons_of_mem
abbrev g_:=@List.mem_cons
abbrev h_:=@Nat.le_trans
abbrev i_:=@List.take_of_length_le
abbrev j_:=@List.getElem?_eq_getElem
abbrev k_:=@List.mem_append_right
abbrev m_:=@List.mem_cons_self
abbrev o_:=@List.take_succ_eq_append_getElem
abbrev p_:=@List.mem_of_getElem?
abbrev q_:=@List.mem_append
abbrev r_:=@List.length_cons
abbrev s_:=@List.mem_append_left
abbrev t_:=@Nat.zero_le
abbrev u_:=@List.length_take
abbrev v_:=@List.getElem_mem
abbrev w_:=@Array.getElem?_eq_some_iff
abbrev x_:=@Nat.le_refl
abbrev y_:=@List.nil_append
abbrev A_:=@World.size_alloc
abbrev B_:=@List.length_drop
abbrev C_:=@List.getD_eq_getElem?_getD
abbrev D_:=@List.append_assoc
abbrev E_:=@World.ownsRow_nil
abbrev F_:=@IntWalk.i64_in
abbrev G_:=@List.getElem?_eq_some_iff
abbrev I_:=@World.putObj_heap_other
abbrev J_:=@List.getElem?_append_left
abbrev K_:=@Bool.and_eq_true
abbrev L_:=@Nat.lt_of_lt_of_le
abbrev M_:=@List.flatMap_cons
abbrev N_:=@List.cons_append
abbrev O_:=@List.mem_flatMap
abbrev P_:=@World.cell?_setCell_other
abbrev Q_:=@List.take_append_of_le_length
abbrev R_:=@List.length_nil
abbrev S_:=@List.any_eq_false
abbrev T_:=@Nat.lt_or_ge
abbrev U_:=@List.length_eq_zero_iff
abbrev V_:=@World.block_lt_of_cell?
abbrev W_:=@World.cell?_of_block
abbrev X_:=@Nat.mod_eq_of_lt
abbrev Y_:=@List.getElem?_append_right
abbrev Z_:=@List.pairwise_cons
abbrev aa_:=@List.take_append_drop
abbrev ab_:=@List.mem_filter
abbrev ac_:=@List.set_cons_succ
abbrev ad_:=@Nat.eq_zero_or_pos
abbrev ae_:=@List.drop_append_of_le_length
abbrev af_:=@World.cell?_alloc_lt
abbrev ag_:=@Nat.zero_add
abbrev ah_:=@List.length_singleton
abbrev ai_:=@List.pairwise_iff_getElem
abbrev aj_:=@List.size_toArray
abbrev ak_:=@List.set_cons_zero
abbrev al_:=@List.all_eq_true
abbrev am_:=@Nat.le_add_right
abbrev an_:=@List.getElem?_drop
abbrev ao_:=@Bool.false_eq_true
abbrev ap_:=@Option.some.inj
abbrev aq_:=@List.drop_eq_nil_of_le
abbrev ar_:=@List.not_mem_nil
abbrev au_:=@List.length_set
abbrev av_:=@List.mem_take_iff_getElem
abbrev aw_:=@List.map_cons
abbrev ax_:=@Option.some.injEq
abbrev ay_:=@List.length_filter_le
abbrev az_:=@List.length_map
abbrev aA_:=@List.nodup_append
abbrev aB_:=@List.getElem_append_left
abbrev aC_:=@List.take_append_getElem
abbrev aD_:=@List.map_append
abbrev aE_:=@List.take_take
abbrev aF_:=@World.cell?_setCell_same
abbrev aG_:=@List.drop_drop
abbrev aH_:=@Nat.min_eq_left
abbrev aI_:=@List.getElem?_take
abbrev aJ_:=@List.set_eq_take_append_cons_drop
abbrev aK_:=@Option.map_some
abbrev aL_:=@Array.replicate_succ
abbrev aM_:=@Array.replicate_zero
abbrev aN_:=@List.mem_of_mem_take
abbrev aO_:=@List.any_eq_true
abbrev aP_:=@List.getElem_cons_zero
abbrev aQ_:=@List.append_toArray
abbrev aR_:=@List.getElem_of_mem
abbrev aS_:=@List.filter_eq_self
abbrev aT_:=@Classical.byContradiction
abbrev aU_:=@List.append_nil
abbrev aV_:=@List.mem_iff_getElem?
abbrev aW_:=@Nat.mul_one
abbrev aX_:=@Nat.mul_le_mul_right
abbrev aY_:=@IntWalk.u64_in
abbrev aZ_:=@List.push_toArray
abbrev a0_:=@Option.mem_toList
abbrev a1_:=@Array.toList_push
abbrev a2_:=@List.find?_append
abbrev a3_:=@List.nodup_cons
abbrev a4_:=@List.flatMap_append
abbrev a5_:=@Bool.decide_and
abbrev a6_:=@List.toList_toArray
abbrev a7_:=@List.sublist_append_right
abbrev a8_:=@List.drop_left
abbrev a9_:=@List.getElem?_modify
abbrev ba_:=@List.pairwise_append
abbrev bb_:=@List.map_nil
abbrev bc_:=@List.mem_map
abbrev bd_:=@Nat.add_zero
abbrev be_:=@List.flatten_append
abbrev bf_:=@List.filter_cons
abbrev bg_:=@List.eq_nil_of_length_eq_zero
abbrev bh_:=@List.getElem?_set_self
abbrev bi_:=@World.putObj_heap_same
abbrev bj_:=@List.foldl_cons
abbrev bk_:=@Nat.le_of_eq
abbrev bl_:=@Nat.add_mul
abbrev bm_:=@Nat.mod_lt
abbrev bn_:=@List.foldl_append
abbrev bo_:=@List.Pairwise.nil
abbrev bp_:=@Bool.not_eq_true'
abbrev bq_:=@List.findIdx_getElem
abbrev br_:=@List.getElem?_of_mem
abbrev bs_:=@World.alloc_heap_new
abbrev bt_:=@List.mem_iff_getElem
abbrev bu_:=@List.getElem?_set_ne
abbrev bv_:=@Nat.pow_le_pow_right
abbrev bw_:=@List.getElem_append_right
abbrev bx_:=@List.drop_eq_getElem_cons
abbrev by_:=@List.map_toArray
abbrev bz_:=@List.getElem_set
abbrev bA_:=@List.drop_append
abbrev bB_:=@List.length_pos_iff
abbrev bC_:=@Array.toList_modify
abbrev bD_:=@List.drop_succ_cons
abbrev bE_:=@List.getD_cons_zero
abbrev bF_:=@Nat.sub_self
abbrev bG_:=@Bool.or_eq_true
abbrev bH_:=@Option.isNone_some
abbrev bI_:=@Nat.add_sub_cancel
abbrev bJ_:=@List.find?_cons
abbrev bK_:=@Prod.mk.injEq
abbrev bL_:=@List.filter_eq_nil_iff
abbrev bM_:=@List.findIdx_lt_length
abbrev bN_:=@Option.map_eq_some_iff
abbrev bO_:=@Array.size_append
abbrev bP_:=@List.mem_range
abbrev bQ_:=@List.length_replicate
abbrev bR_:=@Bool.or_eq_false_iff
abbrev bS_:=@List.mem_of_mem_drop
abbrev bT_:=@List.length_dropLast
abbrev bU_:=@Bool.not_true
abbrev bV_:=@Bool.or_false
abbrev bW_:=@List.all_append
abbrev bX_:=@List.take_succ_cons
abbrev bY_:=@List.Sublist.trans
abbrev bZ_:=@List.filter_append
abbrev b1_:=@Nat.lt_or_gt_of_ne
abbrev b2_:=@List.find?_eq_none
abbrev b3_:=@List.getElem?_map
abbrev b4_:=@List.take_sublist
abbrev b5_:=@Function.comp_def
abbrev b6_:=@List.flatten_cons
abbrev b7_:=@List.sum_cons
abbrev b8_:=@Bool.true_and
abbrev b9_:=@Int.natCast_zero
abbrev ca_:=@List.mem_nil_iff
abbrev cb_:=@Nat.succ_mul
abbrev cc_:=@Bool.eq_iff_iff
abbrev cd_:=@Option.map_none
abbrev ce_:=@Bool.not_false
abbrev cf_:=@List.take_left
abbrev cg_:=@Nat.mul_pos
abbrev ch_:=@Nat.pow_add
abbrev ci_:=@List.drop_set
end
section
open Go Go.RowKit
theorem add_block (a:Addr) (n:Nat):(a.add n).block=a.block:=by
 unfold Addr.add;split<;>rfl
theorem xx1 (a:Addr) (i j:Nat):(a.add i).add j=a.add (i+j):=by
 unfold Addr.add
 rcases ad_ i with hi|hi<;>rcases ad_ j with hj|hj
 ·simp[hi,hj]
 ·rw[if_neg (by omega:¬j=0),if_pos hi,if_neg (by omega),hi,ag_]
 ·rw[if_pos hj,hj,if_neg (by omega),if_neg (by omega)]
  rfl
 ·rw[if_neg (by omega:¬j=0),if_neg (by omega:¬i=0),if_neg (by omega)]
  simp only[Nat.add_assoc]
structure Row (B:Nat) (w:World) (A:Option Addr) (n size:Nat) (xs:List Value):Prop where
 len:xs.length=n *size
 cell:∀j (h:j < xs.length),∃a,A=some a∧a.block < B∧w.cell? (a.add j)=some (xs[j])
variable {B B' n size:Nat} {w w':World} {A:Option Addr} {xs:List Value}
theorem Row.nil_:Row B w A 0 size []:=⟨by simp,fun j h=>absurd h (by simp)⟩
theorem Row.up (h:Row B w A n size xs) (hB:B≤B'):Row B' w A n size xs:=
 ⟨h.len,fun j hj=>let ⟨a,e,b,c⟩:=h.cell j hj;⟨a,e,by omega,c⟩⟩
theorem Row.keep (h:Row B w A n size xs) (hk:∀p:Addr,p.block < B→w'.cell? p=w.cell? p):Row B w' A n size xs:=
 ⟨h.len,fun j hj=>let ⟨a,e,b,c⟩:=h.cell j hj;⟨a,e,b,(hk _ (by rw[add_block];exact b)).trans c⟩⟩
theorem Row.below (h:Row B w A n size xs) (hb:Below B w w'):Row B w' A n size xs:=h.keep fun _ hp=>hb.cell hp
theorem Row.arg (h:Row B w A n size xs) (hB:B≤w.heap.size):Row w.heap.size w A n size xs:=h.up hB
theorem Row.alloc (h:Row B w A n size xs) (hB:B≤w.heap.size) (o:Obj):Row B (w.alloc o) A n size xs:=
 h.keep fun p hp=>af_ w o p (by omega)
theorem Row.drew (h:Row B w A n size xs):Row B w.drew A n size xs:=h.keep fun _ _=>rfl
theorem Row.drewN (h:Row B w A n size xs) (k:Nat):Row B (w.drewN k) A n size xs:=h.keep fun _ _=>rfl
theorem Row.at1 (h:Row B w A n 1 xs) {k:Nat} (hk:k < n):∃a v,A=some a∧a.block < B∧xs[k]?=some v∧w.cell? (a.add k)=some v:=by
 have hl:k < xs.length:=by have:=h.len;omega
 obtain⟨a,e,b,c⟩:=h.cell k hl;exact⟨a,xs[k],e,b,j_ hl,c⟩
theorem Row.some_ (h:Row B w A n size xs) (hn:0 < xs.length):∃a,A=some a∧a.block < B:=by
 obtain⟨a,e,b,_⟩:=h.cell 0 hn;exact⟨a,e,b⟩
theorem Row.cells {a:Addr} (h:Row B w (some a) n size xs):∀j u,xs[j]?=some u→w.cell? (a.add j)=some u:=by
 intro j u hu;obtain⟨hl,rfl⟩:=G_.1 hu;obtain⟨a',e,_,c⟩:=h.cell j hl;injection e with e;subst e;exact c
theorem Row.cut (h:Row B w A n size xs) {k m:Nat} (hk:k≤m) (hm:m≤n) {A':Option Addr} (hA:k < m→A'=A.map (·.add (k *size))):
  Row B w A' (m - k) size ((xs.drop (k *size)).take ((m - k)*size)):=by
 have hle:(m - k)*size≤xs.length - k *size:=by
  rw[h.len,←Nat.sub_mul];exact aX_ _ (by omega)
 refine⟨by rw[u_,B_];omega,fun j hj=>?_⟩;have hj':j < (m - k)*size:=by rw[u_]at hj;omega
 have hkm:k < m:=by
  rcases T_ k m with h0|h0
  ·exact h0
  ·rw[show m - k=0 from by omega,Nat.zero_mul]at hj';omega
 obtain⟨a,rfl,hb,hc⟩:=h.cell (k *size+j) (by omega);refine⟨a.add (k *size),hA hkm,by rw[add_block];exact hb,?_⟩;rw[xx1,hc];simp
theorem Row.pre (h:Row B w A n size xs) {m:Nat} (hm:m≤n):Row B w A m size (xs.take (m *size)):=by
 have:=h.cut (A':=A) (t_ m) hm (fun _=>by cases A<;>simp[Addr.add]);simpa using this
theorem Row.new (w:World) (cs:Array Value) (e:TypeId) {n size:Nat} (hs:cs.size=n *size) (fr:Nat×Nat:=(0,0)):Row (w.heap.size+1) (w.alloc (.cells cs e fr)) (some ⟨w.heap.size,0,none⟩) n size cs.toList:=by
 refine⟨by simpa using hs,fun j hj=>⟨_,rfl,by simp,?_⟩⟩;have:((⟨w.heap.size,0,none⟩:Addr).add j)=⟨w.heap.size,j,none⟩:=by
  unfold Addr.add;split<;>simp_all
 rw[this,cell_of_row _ _ _ _ _ _ (heap_alloc_new w _)];simp at hj ⊢
theorem Row.own {base:Nat} {e:TypeId} {c:Nat} (h:w.ownsRow base e size (.slice A n c) n xs):Row w.heap.size w A n size xs:=by
 refine⟨h.1,fun j hj=>?_⟩
 rcases h.2 with ⟨hv,hn⟩|⟨g,cap,cur,hv,hb,hg,_,_,_,htake⟩
 ·subst hn
  have:=h.1;omega
 ·injection hv with hA _ _
  subst hA;exact⟨_,rfl,(w_.1 hg).1,h.cells (g:=g) rfl j _ (j_ hj)⟩
theorem dw {base:Nat} {e:TypeId} {v:Value} (h:w.ownsRow base e size v n xs):
  ∃A c,v=.slice A n c∧n≤c∧c≤maxLen∧(∀a,A=some a→base≤a.block∧a.block < w.heap.size∧a.spot=none∧a.off=0):=by
 rcases h.2 with ⟨rfl,rfl⟩|⟨g,cap,cur,rfl,hb,hg,hn,hc,_⟩
 ·exact⟨none,0,rfl,x_ _,t_ _,fun a h=>by cases h⟩
 ·exact⟨_,cap,rfl,hn,hc,fun a h=>by cases h;exact⟨hb,(w_.1 hg).1,rfl,rfl⟩⟩
theorem own_below {base:Nat} {e:TypeId} {v:Value} (h:w.ownsRow base e size v n xs) (hb:Below w.heap.size w w'):w'.ownsRow base e size v n xs:=
 h.kept (row:=none) ⟨hb.os,hb.tape,hb.output,hb.size,fun k hk _=>hb.block k hk⟩ (by cases v.ownBlock<;>simp)
theorem own_base {base base':Nat} {e:TypeId} {v:Value} (h:w.ownsRow base e size v n xs) (hb:base'≤base):w.ownsRow base' e size v n xs:=by
 refine⟨h.1,?_⟩
 rcases h.2 with h0|⟨g,cap,cur,rfl,h1,r⟩
 ·exact .inl h0
 ·exact .inr ⟨g,cap,cur,rfl,by omega,r⟩
theorem xz1 {base:Nat} {e:TypeId} {v:Value} {a:World} (h:Below base a w) (ho:w.ownsRow base e size v n xs) (hg:w.grownBy w' v.ownBlock) (hB:base≤w.heap.size):Below base a w':=
 h.grown hg hB (fun k hk=>(ho.lt k hk).1)
theorem below_drewN {B:Nat} {a w:World} (h:Below B a w) (n:Nat):Below B a (w.drewN n):=⟨h.os,h.tape,h.output,h.size,h.block⟩
theorem cj5 {P:Program} (w:World) (base:Nat) (t ty e:TypeId) (i:TypeInfo) (z:Value) (size bytes:Nat) (ht:P.underlying t=some (.slice e)) (hi:P.info? e=some i) (hz:i.zero=some z)
  (hsize:i.size=size) (hby:i.bytes=bytes) (hzs:z.cells.size=size) (hsz:0 < size) (v:Value) (n:Nat) (xs:List Value) (hown:w.ownsRow base e size v n xs)
  (B:Nat) (A:Option Addr) (m c:Nat) (news:List Value) (hr:Row B w A m size news) (h1:∀u∈news,u.oneCell'=true)
  (h63:n+m≤maxLen) (hbytes:(n+m)*bytes≤140737488355328) (hbase:base≤w.heap.size):
  ∃A' c' w',(Builtin.append_ #[t,t] ty #[v,.slice A m c]).run P w=.ok (.slice A' (n+m) c') w'∧w'.ownsRow base e size (.slice A' (n+m) c') (n+m) (xs++news)∧w.grownBy w' v.ownBlock∧n+m≤c'∧c'≤maxLen:=by
 have pack:∀v' w',(Builtin.append_ #[t,t] ty #[v,.slice A m c]).run P w=.ok v' w'→w'.ownsRow base e size v' (n+m) (xs++news)→w.grownBy w' v.ownBlock→
   ∃A' c' w',(Builtin.append_ #[t,t] ty #[v,.slice A m c]).run P w=.ok (.slice A' (n+m) c') w'∧w'.ownsRow base e size (.slice A' (n+m) c') (n+m) (xs++news)∧w.grownBy w' v.ownBlock∧n+m≤c'∧c'≤maxLen:=by
  intro v' w' h2 h3 h4;obtain⟨A',c',rfl,h5,h6,_⟩:=dw h3;exact⟨A',c',w',h2,h3,h4,h5,h6⟩
 rcases ad_ m with h0|h0
 ·subst h0
  have hn:news=[]:=bg_ (by simpa using hr.len);subst hn;rw[aU_]at pack ⊢;refine pack v w ?_ hown ⟨rfl,rfl,rfl,x_ _,fun _ _ _=>rfl⟩
  rcases hown.2 with ⟨rfl,rfl⟩|⟨g,cap,cur,rfl,_,_,hnc,_⟩
  ·rcases A with _|a<;>simp[Builtin.append_,run_underlying ht,sizeOf,typeInfo,hi,Builtin.lenOf,Builtin.firstCells,loadCells,loadCellsFrom]
  ·rcases A with _|a<;>simp[Builtin.append_,run_underlying ht,sizeOf,typeInfo,hi,Builtin.lenOf,Builtin.firstCells,loadCells,loadCellsFrom,hnc,storeCells]
 ·have hpos:0 < news.length:=by
   rw[hr.len];exact cg_ h0 hsz
  obtain⟨a,rfl,_⟩:=hr.some_ hpos;obtain⟨v',w',h2,h3,h4,_⟩:=run_append_own_at (P:=P) w base t ty e i z size bytes ht hi hz hsize hby hzs hsz v n xs hown a m c news hr.len hr.cells h1 h63 hbytes hbase;exact pack v' w' h2 h3 h4
theorem gz5 {P:Program} (w:World) {o:Oper} {a:Act} {K:Act→World→Prop} {Q:Exit→Act→World→Prop} (s x:Operand) (t:TypeId)
  (ho:o.op=.call { callee:=.builtin .append,args:=#[s,x],argTypes:=#[t,t] })
  (base:Nat) (e:TypeId) (i:TypeInfo) (z:Value) (size bytes:Nat) (ht:P.underlying t=some (.slice e)) (hi:P.info? e=some i) (hz:i.zero=some z)
  (hsize:i.size=size) (hby:i.bytes=bytes) (hzs:z.cells.size=size) (hsz:0 < size) (w0:World) (hb:Below base w0 w) (hbase:base≤w.heap.size) (v:Value) (n:Nat) (xs:List Value) (hs:a.eval s=v) (hown:w.ownsRow base e size v n xs)
  (B:Nat) (A:Option Addr) (m c:Nat) (news:List Value) (hx:a.eval x=.slice A m c) (hr:Row B w A m size news) (h1:∀u∈news,u.oneCell'=true)
  (h63:n+m≤maxLen) (hbytes:(n+m)*bytes≤140737488355328)
  (h:∀A' c' w',w'.ownsRow base e size (.slice A' (n+m) c') (n+m) (xs++news)→Below base w0 w'→w.grownBy w' v.ownBlock→n+m≤c'→c'≤maxLen→K (a.put o.dst (.slice A' (n+m) c')) w'):o.wp P a w K Q:=by
 obtain⟨A',c',w',hrun,h2,h3,h4,h5⟩:=cj5 (P:=P) w base t o.type e i z size bytes ht hi hz hsize hby hzs hsz v n xs hown B A m c news hr h1 h63 hbytes hbase;unfold Oper.wp execOp;simp only[ho,resolve,invoke,builtin,Sem.run_bind,Sem.run_pure,Result.andThen_ok,by_,aw_,bb_,hs,hx,hrun];exact h A' c' w' h2 (xz1 hb hown h3 hbase) h3 h4 h5
theorem jq {P:Program} {w:World} {ops:Array Oper} {rest:List Oper} {o:Oper} {a:Act} {Q:Exit→Act→World→Prop} (hgd:o.guard=none) (s x:Operand) (t:TypeId)
  (ho:o.op=.call { callee:=.builtin .append,args:=#[s,x],argTypes:=#[t,t] })
  (base:Nat) (e:TypeId) (i:TypeInfo) (z:Value) (size bytes:Nat) (ht:P.underlying t=some (.slice e)) (hi:P.info? e=some i) (hz:i.zero=some z)
  (hsize:i.size=size) (hby:i.bytes=bytes) (hzs:z.cells.size=size) (hsz:0 < size) (w0:World) (hb:Below base w0 w) (hbase:base≤w.heap.size) (v:Value) (n:Nat) (xs:List Value) (hs:a.eval s=v) (hown:w.ownsRow base e size v n xs)
  (B:Nat) (A:Option Addr) (m c:Nat) (news:List Value) (hx:a.eval x=.slice A m c) (hr:Row B w A m size news) (h1:∀u∈news,u.oneCell'=true)
  (N:Nat) (X:List Value) (hN:n+m=N) (hX:xs++news=X) (h63:N≤maxLen) (hbytes:N *bytes≤140737488355328)
  (h:∀A' c' w',w'.ownsRow base e size (.slice A' N c') N X→Below base w0 w'→w.grownBy w' v.ownBlock→N≤c'→c'≤maxLen→wpList P ops Q rest (a.put o.dst (.slice A' N c')) w'):wpList P ops Q (o::rest) a w:=by
 subst hN;subst hX;exact wpList_plain hgd fun _ hK=>gz5 w s x t ho base e i z size bytes ht hi hz hsize hby hzs hsz w0 hb hbase v n xs hs hown B A m c news hx hr h1 h63 hbytes fun A' c' w' h2 h3 h4 h5 h6=>hK _ _ (h A' c' w' h2 h3 h4 h5 h6)
theorem ry {P:Program} {w:World} {ops:Array Oper} {rest:List Oper} {o:Oper} {a:Act} {Q:Exit→Act→World→Prop} (hgd:o.guard=none) (s x:Operand) (t:TypeId)
  (ho:o.op=.call { callee:=.builtin .append,args:=#[s,x],argTypes:=#[t,t] })
  (base:Nat) (e:TypeId) (i:TypeInfo) (z:Value) (size bytes:Nat) (ht:P.underlying t=some (.slice e)) (hi:P.info? e=some i) (hz:i.zero=some z)
  (hsize:i.size=size) (hby:i.bytes=bytes) (hzs:z.cells.size=size) (hsz:0 < size) (w0:World) (hb:Below base w0 w) (hbase:base≤w.heap.size) (hs:a.eval s=.slice none 0 0)
  (B:Nat) (A:Option Addr) (m c:Nat) (news:List Value) (hx:a.eval x=.slice A m c) (hr:Row B w A m size news) (h1:∀u∈news,u.oneCell'=true)
  (h63:m≤maxLen) (hbytes:m *bytes≤140737488355328)
  (h:∀A' c' w',w'.ownsRow base e size (.slice A' m c') m news→Below base w0 w'→w.grownBy w' none→m≤c'→c'≤maxLen→wpList P ops Q rest (a.put o.dst (.slice A' m c')) w'):wpList P ops Q (o::rest) a w:=
 jq hgd s x t ho base e i z size bytes ht hi hz hsize hby hzs hsz w0 hb hbase (.slice none 0 0) 0 [] hs (E_ _ _ _ _) B A m c news hx hr h1 m news (ag_ m) (y_ news) h63 hbytes
  (by simpa [Value.ownBlock] using h)
theorem kk5 {P:Program} (t e:TypeId) (i:TypeInfo) (z:Value) (ht:P.underlying t=some (.slice e)) (hi:P.info? e=some i) (hz:i.zero=some z) (h1:i.size=1) (hzc:z.cells=#[z]) (n:Nat) (hb:i.bytes *n≤281474976710656) (hn:n≤9223372036854775807):
  ∃cs:Array Value,cs.toList=List.replicate n z∧∀W:World,(Instr.makeSlice t (.int .i64 (n:Int)) (.int .i64 (n:Int))).run P W=.ok (.slice (some ⟨W.heap.size,0,none⟩) n n) (W.alloc (.cells cs e)):=by
 refine⟨madeCells #[z] n,toList_madeCells_one z n,fun W=>?_⟩;have hb':(i.bytes:Int)*(n:Int)≤281474976710656:=by
  have h:((i.bytes *n:Nat):Int)≤281474976710656:=by omega
  rwa [Int.natCast_mul]at h
 have hr:=run_make (P:=P) W t e i z ht hi hz .i64 .i64 n n (by omega) (by omega) hb' (by omega);simpa [h1,hzc] using hr
def Stop (p:Prop):Prop:=p
theorem iy {p:Prop} (h:Stop p):p:=h
theorem gz {p:Prop} (h:p):Stop p:=h
def bts (l:List UInt8):List Value:=l.map fun c=>.int .u8 (c.toNat:Int)
theorem pq (l:List UInt8):(bts l).length=l.length:=by simp[bts]
theorem fj4 (l:List UInt8) (k:Nat):(bts l)[k]?=(l[k]?).map fun c=>.int .u8 (c.toNat:Int):=by simp[bts]
theorem tq1 (a b:List UInt8):bts (a++b)=bts a++bts b:=by simp[bts]
theorem gz1 (l:List UInt8) (k:Nat):bts (l.take k)=(bts l).take k:=by simp[bts]
theorem mx2 (l:List UInt8) (k:Nat):bts (l.drop k)=(bts l).drop k:=by simp[bts]
theorem xy (l:List UInt8):∀u∈bts l,u.oneCell'=true:=by
 intro u hu;simp only[bts,bc_]at hu;obtain⟨c,_,rfl⟩:=hu;rfl
theorem Row.bt {l:List UInt8} (h:Row B w A n 1 (bts l)) {k:Nat} (hk:k < n):∃a,∃hl:k < l.length,A=some a∧a.block < B∧w.cell? (a.add k)=some (.int .u8 ((l[k]).toNat:Int)):=by
 obtain⟨a,v,e,b,hv,hc⟩:=h.at1 hk;have hl:k < l.length:=by have:=h.len;rw[pq]at this;omega
 rw[fj4,j_ hl]at hv;injection hv with hv;exact⟨a,hl,e,b,by rw[hc,←hv]⟩
theorem Row.xk {l:List UInt8} (h:Row B w A n 1 (bts l)):l.length=n:=by have:=h.len;rw[pq]at this;omega
theorem foldl_push (l:List UInt8):∀s:ByteArray,(l.map fun c=>(c.toNat:Int)).foldl (fun r n=>r.push (UInt8.ofNat n.toNat)) s=⟨s.data++l.toArray⟩:=by
 induction l with
 |nil=>intro s;simp
 |cons c l ih=>
  intro s;rw[aw_,bj_,ih]
  congr 1
  apply Array.toList_inj.1;simp[ByteArray.push]
theorem Row.load {P:Program} {a:Addr} (h:Row B w (some a) n 1 xs):(loadCells a n).run P w=.ok xs.toArray w:=by
 have hl:=h.len;have:=run_loadCells_list (P:=P) (w:=w) a xs h.cells
 rwa [show xs.length=n from by omega]at this
theorem qv4 {P:Program} {l:List UInt8} (src dst e:TypeId) (hs:P.underlying src=some (.slice e)) (he:P.underlying e=some (.int .u8)) (hd:P.underlying dst=some .string)
  (h:Row B w A n 1 (bts l)) (c:Nat):(convert src dst (.slice A n c)).run P w=.ok (.string ⟨l.toArray⟩) w:=by
 rw[run_convert_bytes_string w src dst e A n c hs he hd];have hl:=h.xk
 rcases A with _|a
 ·have hn:n=0:=by
   rcases ad_ n with h0|h0
   ·exact h0
   ·obtain⟨_,_,he,_⟩:=h.bt h0
    cases he
  subst hn;obtain rfl:=bg_ hl;rfl
 ·rw[run_bytesToString w a n c (l.map fun c=>(c.toNat:Int)) (by rw[h.load];simp[bts,b5_]),foldl_push]
  simp
end
section
open Go
theorem tq (k:Nat) (x:BitVec k):BitVec.ofInt k (x.toNat:Int)=x:=by
 apply BitVec.eq_of_toNat_eq;simp
theorem eq2 (x y:BitVec 32):bits .and .u32 (x.toNat:Int) (y.toNat:Int)=((x&&&y).toNat:Int):=by
 show IntKind.u32.wrap ((BitVec.ofInt 32 (x.toNat:Int) &&&BitVec.ofInt 32 (y.toNat:Int)).toNat:Int)=_
 rw[tq,tq,IntKind.wrap_u32'];omega
theorem sw1 (x y:BitVec 32):bits .xor .u32 (x.toNat:Int) (y.toNat:Int)=((x ^^^ y).toNat:Int):=by
 show IntKind.u32.wrap ((BitVec.ofInt 32 (x.toNat:Int) ^^^ BitVec.ofInt 32 (y.toNat:Int)).toNat:Int)=_
 rw[tq,tq,IntKind.wrap_u32'];omega
theorem gy2 (x y:BitVec 64):bits .and .u64 (x.toNat:Int) (y.toNat:Int)=((x&&&y).toNat:Int):=by
 show IntKind.u64.wrap ((BitVec.ofInt 64 (x.toNat:Int) &&&BitVec.ofInt 64 (y.toNat:Int)).toNat:Int)=_
 rw[tq,tq,IntKind.wrap_u64];omega
theorem zx3 (x y:BitVec 64):bits .or .u64 (x.toNat:Int) (y.toNat:Int)=((x|||y).toNat:Int):=by
 show IntKind.u64.wrap ((BitVec.ofInt 64 (x.toNat:Int)|||BitVec.ofInt 64 (y.toNat:Int)).toNat:Int)=_
 rw[tq,tq,IntKind.wrap_u64];omega
theorem jk2 (x y:BitVec 64):bits .xor .u64 (x.toNat:Int) (y.toNat:Int)=((x ^^^ y).toNat:Int):=by
 show IntKind.u64.wrap ((BitVec.ofInt 64 (x.toNat:Int) ^^^ BitVec.ofInt 64 (y.toNat:Int)).toNat:Int)=_
 rw[tq,tq,IntKind.wrap_u64];omega
theorem fk3 (a:Int) (k:Nat) (hk:k < 63):∃m:Nat,bits .and .i64 a (2 ^ k - 1:Nat)=(m:Int)∧m < 2 ^ k:=by
 have h2:2 ^ k < 2 ^ 63:=Nat.pow_lt_pow_right (by omega) hk;have hpos:0 < 2 ^ k:=Nat.pow_pos (by omega);have e:bits .and .i64 a ((2 ^ k - 1:Nat):Int)=IntKind.i64.wrap ((BitVec.ofInt 64 a&&&BitVec.ofInt 64 ((2 ^ k - 1:Nat):Int)).toNat:Int):=rfl;have hm:(BitVec.ofInt 64 ((2 ^ k - 1:Nat):Int)).toNat=2 ^ k - 1:=by
  rw[BitVec.ofInt_natCast,BitVec.toNat_ofNat];exact X_ (by omega)
 have hle:(BitVec.ofInt 64 a&&&BitVec.ofInt 64 ((2 ^ k - 1:Nat):Int)).toNat≤2 ^ k - 1:=by
  rw[BitVec.toNat_and,hm];exact Nat.and_le_right
 refine⟨(BitVec.ofInt 64 a&&&BitVec.ofInt 64 ((2 ^ k - 1:Nat):Int)).toNat,?_,by omega⟩;rw[e,IntKind.wrap_i64];omega
theorem qk3 (x:BitVec 64) (k:Nat) (hk:k < 64):∃m:Nat,bits .and .u64 (x.toNat:Int) ((2 ^ k - 1:Nat):Int)=(m:Int)∧m < 2 ^ k∧m=x.toNat % 2 ^ k:=by
 have h2:2 ^ k < 2 ^ 64:=Nat.pow_lt_pow_right (by omega) hk;have hpos:0 < 2 ^ k:=Nat.pow_pos (by omega);have hm:((2 ^ k - 1:Nat):Int)=((BitVec.ofNat 64 (2 ^ k - 1)).toNat:Int):=by
  rw[BitVec.toNat_ofNat,X_ (by omega)]
 refine⟨x.toNat % 2 ^ k,?_,bm_ _ hpos,rfl⟩;rw[hm,gy2,BitVec.toNat_and,BitVec.toNat_ofNat,X_ (by omega),Nat.and_two_pow_sub_one_eq_mod]
theorem gw5 (c:UInt8):((c.toNat:Int) % 4294967296)=((BitVec.ofNat 32 c.toNat).toNat:Int):=by
 have:=c.toNat_lt;simp;omega
theorem gk5 (c:UInt8):(c.toNat:Int)=((BitVec.ofNat 64 c.toNat).toNat:Int):=by
 have:=c.toNat_lt;simp
theorem int_eq {k:IntKind} {a b:Int} (h:a=b):Value.int k a=Value.int k b:=by rw[h]
theorem fw3 {v v':Value} (h:v=v'):Ending.returned v=Ending.returned v':=by rw[h]
end
section
namespace Crc
def poly:BitVec 32:=0x82f63b78#32
def step (n:BitVec 32):BitVec 32:=(n >>> 1) ^^^ (poly&&&-(n&&&1#32))
def steps:Nat→BitVec 32→BitVec 32
 |0,n=>n
 |k+1,n=>steps k (step n)
def byte (n:BitVec 32) (c:UInt8):BitVec 32:=steps 8 (n ^^^ BitVec.ofNat 32 c.toNat)
def add (n:BitVec 32):List UInt8→BitVec 32
 |[]=>n
 |c::l=>add (byte n c) l
def ones:BitVec 32:=0xffffffff#32
def sum (l:List UInt8):BitVec 32:= ~~~ add ones l
theorem fv2 (n:BitVec 32) (a b:List UInt8):add n (a++b)=add (add n a) b:=by
 induction a generalizing n with
 |nil=>rfl
 |cons c l ih=>exact ih (byte n c)
theorem bx3 (k:Nat) (n:BitVec 32):steps (k+1) n=step (steps k n):=by
 induction k generalizing n with
 |zero=>rfl
 |succ k ih=>exact ih (step n)
def four (n:BitVec 32):List UInt8:=[UInt8.ofNat n.toNat,UInt8.ofNat (n.toNat / 256),UInt8.ofNat (n.toNat / 65536),UInt8.ofNat (n.toNat / 16777216)]
def ny (l:List UInt8):List UInt8:=l++four (sum l)
end Crc
namespace Fnv
def basis:BitVec 64:=14695981039346656037#64
def prime:BitVec 64:=1099511628211#64
def byte (h:BitVec 64) (c:UInt8):BitVec 64:=(h ^^^ BitVec.ofNat 64 c.toNat)*prime
def go (h:BitVec 64):List UInt8→BitVec 64
 |[]=>h
 |c::l=>go (byte h c) l
def hash (l:List UInt8):BitVec 64:=go basis l
theorem dj4 (h:BitVec 64) (a b:List UInt8):go h (a++b)=go (go h a) b:=by
 induction a generalizing h with
 |nil=>rfl
 |cons c l ih=>exact ih (byte h c)
theorem bx5 (h:BitVec 64) (l:List UInt8) (k:Nat) (hl:k < l.length):go h (l.take (k+1))=byte (go h (l.take k)) l[k]:=by
 rw[o_ hl,dj4];rfl
end Fnv
end
section
open Go.RowKit
theorem ox2 (x:BitVec 32):bits .xor .u32 ((x.toNat:Int) / 2) (bits .and .u32 2197175160 (-bits .and .u32 (x.toNat:Int) 1 % 4294967296))=((Crc.step x).toNat:Int):=by
 have h1:bits .and .u32 (x.toNat:Int) 1=((x&&&1#32).toNat:Int):=eq2 x 1#32;have h2:-((x&&&1#32).toNat:Int) % 4294967296=((-(x&&&1#32)).toNat:Int):=by
  rw[BitVec.toNat_neg];have:=(x&&&1#32).isLt;omega
 have h3:((x.toNat:Int) / (2:Int))=((x >>> 1).toNat:Int):=by
  rw[BitVec.toNat_ushiftRight,Nat.shiftRight_eq_div_pow];omega
 have h4:bits .and .u32 2197175160 ((-(x&&&1#32)).toNat:Int)=((Crc.poly&&&-(x&&&1#32)).toNat:Int):=eq2 Crc.poly _;rw[h1,h2,h3,h4,sw1];rfl
theorem tk2 (x:BitVec 32):bits .xor .u32 IntKind.u32.max (x.toNat:Int)=((~~~x).toNat:Int):=by
 have h:bits .xor .u32 IntKind.u32.max (x.toNat:Int)=((BitVec.allOnes 32 ^^^ x).toNat:Int):=sw1 (BitVec.allOnes 32) x;rw[h,BitVec.allOnes_xor]
theorem vk2 (m:BitVec 32) (l:List UInt8) (k:Nat) (hl:k < l.length):Crc.add m (l.take (k+1))=Crc.byte (Crc.add m (l.take k)) l[k]:=by
 rw[o_ hl,Crc.fv2];rfl
theorem add_any (m:BitVec 32) (A:Option Addr) (n c:Nat) (l:List UInt8) (w:World) (hn:n≤9223372036854775807) (hr:Row w.heap.size w A n 1 (bts l)):
  Calls Tryz.prog 374 #[.int .u32 (m.toNat:Int),.slice A n c] w fun e w'=>e=.returned (.int .u32 ((Crc.add m l).toNat:Int))∧w=w':=by
 go_enter Tryz.func374,Tryz.ntmps374;go_wp2
 go_loop [0,9,6] (fun x i _=>∃k:Nat,k≤n∧i=.int .i64 k∧x=.int .u32 ((Crc.add m (l.take k)).toNat:Int)) (fun _ i _=>n - (intOf i).toNat)
 case atStart=>exact⟨0,t_ _,rfl,rfl⟩
 case round=>
  obtain⟨k,hk,rfl,rfl⟩:=hrel
  by_cases hlt:k < n
  ·obtain⟨a,hl,rfl,_,hc⟩:=hr.bt hlt
   go_wp2
   go_loop [0,17] (fun x i=>∃j:Nat,j≤8∧i=.int .i64 j∧x=.int .u32 ((Crc.steps j (Crc.add m (l.take k) ^^^ BitVec.ofNat 32 l[k].toNat)).toNat:Int)) (fun _ i=>8 - (intOf i).toNat)
   case atStart=>exact⟨0,t_ _,rfl,int_eq (by rw[gw5,sw1];rfl)⟩
   case round=>
    obtain⟨j,hj,rfl,rfl⟩:=hrel;generalize hx:Crc.steps j (Crc.add m (l.take k) ^^^ BitVec.ofNat 32 l[k].toNat)=x;have HX:=H_ hx;clear hx;have hx0:0≤(x.toNat:Int):=by omega
    have hx1:(x.toNat:Int)≤4294967295:=by have:=x.isLt;omega
    by_cases hj8:j < 8
    ·go_wp2
     go_round
     case rel=>exact⟨j+1,by omega,by go_num,int_eq (by rw[ox2,Crc.bx3,HX.out])⟩
     case measure=>simp[intOf];omega
    ·go_wp2
     go_round
     case rel=>exact⟨k+1,by omega,by go_num,int_eq (by
      obtain rfl:j=8:=by omega
      rw[vk2 m l k hl,Crc.byte,HX.out])⟩
     case measure=>simp[intOf];omega
  ·go_wp2
   go_ret;exact⟨fw3 (int_eq (by rw[i_ (by have:=hr.xk;omega)])),rfl⟩
def ov2 (B:Nat) (w:World) (P:Option Addr) (n:Nat) (ls:List (List UInt8)):Prop:=
 ∃vs,Row B w P n 1 vs∧ls.length=n∧∀i (h:i < ls.length),∃A k c,vs[i]?=some (.slice A k c)∧k≤c∧c≤maxLen∧Row B w A k 1 (bts ls[i])
theorem ov2.at_ {B:Nat} {w:World} {P:Option Addr} {n:Nat} {ls:List (List UInt8)} (h:ov2 B w P n ls) {i:Nat} (hi:i < n):
  ∃a A k c,∃hl:i < ls.length,P=some a∧a.block < B∧w.cell? (a.add i)=some (.slice A k c)∧k≤c∧c≤maxLen∧Row B w A k 1 (bts ls[i]):=by
 obtain⟨vs,hr,hl,hf⟩:=h;obtain⟨a,v,e,b,hv,hc⟩:=hr.at1 hi;obtain⟨A,k,c,h1,h2,h3,h4⟩:=hf i (by omega);rw[h1]at hv;injection hv with hv;exact⟨a,A,k,c,by omega,e,b,by rw[hc,←hv],h2,h3,h4⟩
theorem ov2.below {B:Nat} {w w':World} {P:Option Addr} {n:Nat} {ls:List (List UInt8)} (h:ov2 B w P n ls) (hb:Below B w w'):ov2 B w' P n ls:=by
 obtain⟨vs,hr,hl,hf⟩:=h;exact⟨vs,hr.below hb,hl,fun i hi=>let ⟨A,k,c,h1,h2,h3,h4⟩:=hf i hi;⟨A,k,c,h1,h2,h3,h4.below hb⟩⟩
def iy1 (m:BitVec 32):List (List UInt8)→BitVec 32
 |[]=>m
 |l::ls=>iy1 (Crc.add m l) ls
theorem nx2 (m:BitVec 32) (a b:List (List UInt8)):iy1 m (a++b)=iy1 (iy1 m a) b:=by
 induction a generalizing m with
 |nil=>rfl
 |cons x l ih=>exact ih _
theorem aw3 (m:BitVec 32) (ls:List (List UInt8)) (k:Nat) (hl:k < ls.length):iy1 m (ls.take (k+1))=Crc.add (iy1 m (ls.take k)) ls[k]:=by
 rw[o_ hl,nx2];rfl
theorem av3 (m:BitVec 32) (ls:List (List UInt8)):iy1 m ls=Crc.add m ls.flatten:=by
 induction ls generalizing m with
 |nil=>rfl
 |cons x l ih=>rw[b6_,Crc.fv2];exact ih _
theorem yq3 (P:Option Addr) (n c:Nat) (ls:List (List UInt8)) (w:World) (hn:n≤9223372036854775807) (hr:ov2 w.heap.size w P n ls):
  Calls Tryz.prog 356 #[.slice P n c] w fun e w'=>e=.returned (.int .u32 ((Crc.sum ls.flatten).toNat:Int))∧w=w':=by
 go_enter Tryz.func356,Tryz.ntmps356;go_wp2
 go_loop [3,8,5] (fun x i _=>∃k:Nat,k≤n∧i=.int .i64 k∧x=.int .u32 ((iy1 Crc.ones (ls.take k)).toNat:Int)) (fun _ i _=>n - (intOf i).toNat)
 case atStart=>exact⟨0,t_ _,rfl,rfl⟩
 case round=>
  obtain⟨k,hk,rfl,rfl⟩:=hrel
  by_cases hlt:k < n
  ·obtain⟨a,A,k',c',hl,rfl,_,hc,hkc,hcm,hr2⟩:=hr.at_ hlt
   unfold maxLen at hcm;go_wp2_with (go_at_call 374;refine(add_any _ _ _ _ _ _ (by omega) hr2).mono ?_;rintro e w' ⟨rfl,rfl⟩)
   go_round
   case rel=>exact⟨k+1,by omega,by go_num,int_eq (by rw[aw3 _ _ _ hl])⟩
   case measure=>simp[intOf];omega
  ·have hx0:0≤((iy1 Crc.ones (ls.take k)).toNat:Int):=by omega
   have hx1:((iy1 Crc.ones (ls.take k)).toNat:Int)≤4294967295:=by have:=(iy1 Crc.ones (ls.take k)).isLt;omega
   go_wp2;go_ret;have hlen:ls.length=n:=by obtain⟨_,_,h,_⟩:=hr;exact h
   refine⟨fw3 (int_eq ?_),rfl⟩;rw[i_ (by omega),av3,tk2];rfl
theorem yq4 (w:World) (e:TypeId) (A:Option Addr) (n c:Nat) (l:List UInt8) (hr:Row w.heap.size w A n 1 (bts l)) (hc:n≤c) (hm:c≤maxLen):
  ov2 (w.alloc (.cells #[.slice A n c] e)).heap.size (w.alloc (.cells #[.slice A n c] e)) (some ⟨w.heap.size,0,none⟩) 1 [l]:=by
 refine⟨_,(Row.new w #[.slice A n c] e (n:=1) (size:=1) rfl).up (by simp),rfl,fun i hi=>?_⟩;obtain rfl:i=0:=by simpa using hi
 exact⟨A,n,c,rfl,hc,hm,(hr.alloc l_ _).up (by simp)⟩
theorem gv5 (A:Option Addr) (n c:Nat) (l:List UInt8) (w:World) (hn:n≤c) (hm:c≤maxLen) (hr:Row w.heap.size w A n 1 (bts l)):
  Calls Tryz.prog 331 #[.slice A n c] w fun e w'=>e=.returned (.int .u32 ((Crc.sum l).toNat:Int))∧Below w.heap.size w w':=by
 have hb:=yq4 w 56 A n c l hr hn hm;go_enter Tryz.func331,Tryz.ntmps331;go_wp2_with (go_at_call 356;refine(yq3 _ _ _ _ _ (by omega) hb).mono ?_;rintro e w' ⟨rfl,rfl⟩);go_ret;refine⟨fw3 (int_eq (by simp)),b_ _ _⟩
end
section
open Go Go.RowKit
structure Chg (F:List Nat) (w w':World):Prop where
 os:w'.os=w.os
 tape:w'.tape=w.tape
 output:w'.output=w.output
 size:w.heap.size≤w'.heap.size
 block:∀k,k < w.heap.size→k∉F→w'.heap[k]?=w.heap[k]?
variable {F G:List Nat} {w w' w'':World}
theorem Chg.refl (F:List Nat) (w:World):Chg F w w:=⟨rfl,rfl,rfl,x_ _,fun _ _ _=>rfl⟩
theorem Chg.trans (h:Chg F w w') (k:Chg G w' w'') (hG:∀g∈G,g∈F∨w.heap.size≤g):Chg F w w'':=
 ⟨k.os.trans h.os,k.tape.trans h.tape,k.output.trans h.output,h_ h.size k.size,fun b hb hF=>(k.block b (L_ hb h.size) (fun hg=>by
  rcases hG b hg with h1|h1
  ·exact hF h1
  ·omega)).trans (h.block b hb hF)⟩
theorem Chg.mono (h:Chg F w w') (hF:∀g∈F,g∈G∨w.heap.size≤g):Chg G w w':=
 ⟨h.os,h.tape,h.output,h.size,fun b hb hG=>h.block b hb (fun hf=>by
  rcases hF b hf with h1|h1
  ·exact hG h1
  ·omega)⟩
theorem Chg.of_below (h:Below w.heap.size w w') (F:List Nat):Chg F w w':=⟨h.os,h.tape,h.output,h.size,fun b hb _=>h.block b hb⟩
theorem Chg.below (h:Chg F w w') {B:Nat} (hB:B≤w.heap.size) (hF:∀g∈F,B≤g):Below B w w':=⟨h.os,h.tape,h.output,h.size,fun b hb=>h.block b (L_ hb hB) (fun hf=>by have:=hF b hf;omega)⟩
theorem Chg.pz {g:Option Nat} (h:w.grownBy w' g) (hg:∀b,g=some b→b∈F):Chg F w w':=⟨h.os,h.tape,h.output,h.size,fun b hb hF=>h.block b hb (fun e=>hF (hg b e.symm))⟩
theorem Chg.drew (h:Chg F w w'):Chg F w w'.drew:=⟨h.os,h.tape,h.output,h.size,h.block⟩
theorem Chg.cell (h:Chg F w w') {p:Addr} (hp:p.block < w.heap.size) (hF:p.block∉F):w'.cell? p=w.cell? p:=W_ (h.block p.block hp hF)
theorem Chg.row {B n size:Nat} {A:Option Addr} {xs:List Value} (h:Chg F w w') (r:Row B w A n size xs) (hB:B≤w.heap.size) (hF:∀a,A=some a→a.block∉F):Row B w' A n size xs:=
 ⟨r.len,fun j hj=>let ⟨a,e,b,c⟩:=r.cell j hj;⟨a,e,b,(h.cell (p:=a.add j) (by rw[add_block];omega) (by rw[add_block];exact hF a e)).trans c⟩⟩
theorem az {w X w1:World} (h:Below w.heap.size w X) (h1:Below X.heap.size X w1):Below w.heap.size w w1:=h.trans (h1.mono h.size)
theorem ak {B:Nat} {w X:World} (h:Below B w X):Below B w X.drew:=⟨h.os,h.tape,h.output,h.size,h.block⟩
theorem Chg.alloc (h:Chg F w w') (o:Obj):Chg F w (w'.alloc o):=
 h.trans (Chg.of_below (b_ _ o) []) (fun g hg=>by cases hg)
theorem Chg.setCell (h:Chg F w w') {p:Addr} (v:Value) (hp:p.block∈F∨w.heap.size≤p.block):Chg F w (w'.setCell p v):=
 ⟨h.os,h.tape,h.output,by simpa using h.size,fun k hk hF=>by
  have e:(w'.setCell p v).heap[k]?=w'.heap[k]?:=by
   refine Below.heap_setCell w' p v k (fun e=>?_);subst e
   rcases hp with hp|hp
   ·exact hF hp
   ·omega
  rw[e];exact h.block k hk hF⟩
end
section
namespace Pn
def putF:Nat→Nat→List UInt8
 |0,n=>[UInt8.ofNat n]
 |k+1,n=>if n < 128 then [UInt8.ofNat n] else UInt8.ofNat (n % 128+128)::putF k (n / 128)
def put (n:Nat):List UInt8:=putF 9 n
def takeF:Nat→Nat→List UInt8→Nat×Nat×Nat
 |_,_,[]=>(0,0,4)
 |i,acc,c::r=>if (i=9∧1 < c.toNat)∨(0 < i∧c.toNat=0) then (0,0,3) else if c.toNat < 128 then (acc+c.toNat *2 ^ (7 *i),i+1,0) else takeF (i+1) (acc+(c.toNat - 128)*2 ^ (7 *i)) r
def take (l:List UInt8):Nat×Nat×Nat:=takeF 0 0 l
def list (l:List Nat):List UInt8:=put l.length++l.flatMap put
theorem jq3:∀k n,1≤(putF k n).length∧(putF k n).length≤k+1
 |0,_=>by simp[putF]
 |k+1,n=>by
  have:=jq3 k (n / 128);unfold putF;split<;>simp<;>omega
theorem ik (n:Nat):1≤(put n).length∧(put n).length≤10:=jq3 9 n
theorem pow7 (i:Nat):2 ^ (7 *(i+1))=128 *2 ^ (7 *i):=by
 rw[show 7 *(i+1)=7 *i+7 from by omega,ch_];omega
theorem oj2 (n:Nat) (h:n < 256):(UInt8.ofNat n).toNat=n:=by
 rw[UInt8.toNat_ofNat'];omega
theorem gq2:∀(k i acc n:Nat) (r:List UInt8),i+k=9→(0 < i→0 < n)→n < 2 ^ (64 - 7 *i)→takeF i acc (putF k n++r)=(acc+n *2 ^ (7 *i),i+(putF k n).length,0)
 |0,i,acc,n,r,hi,h0,hn=>by
  obtain rfl:i=9:=by omega
  have h2:n < 2:=by simpa using hn
  have:=h0 (by omega);have e:(UInt8.ofNat n).toNat=n:=oj2 n (by omega);simp only[putF,N_,y_,takeF,e];rw[if_neg (by omega),if_pos (by omega)];simp
 |k+1,i,acc,n,r,hi,h0,hn=>by
  unfold putF;split
  ·rename_i hl
   have e:(UInt8.ofNat n).toNat=n:=oj2 n (by omega);simp only[N_,y_,takeF,e];rw[if_neg (by omega),if_pos (by omega)];simp
  ·rename_i hl
   have e:(UInt8.ofNat (n % 128+128)).toNat=n % 128+128:=oj2 _ (by omega);simp only[N_,takeF,e];rw[if_neg (by omega),if_neg (by omega)];have h1:n / 128 < 2 ^ (64 - 7 *(i+1)):=by
    rw[Nat.div_lt_iff_lt_mul (by decide)];have:2 ^ (64 - 7 *(i+1))*128=2 ^ (64 - 7 *i):=by
     rw[show (128:Nat)=2 ^ 7 from rfl,←ch_]
     congr 1
     omega
    omega
   rw[gq2 k (i+1) _ (n / 128) r (by omega) (by omega) h1,pow7]
   congr 1
   ·have:n=128 *(n / 128)+n % 128:=(Nat.div_add_mod n 128).symm
    have e2:n *2 ^ (7 *i)=n / 128 *(128 *2 ^ (7 *i))+(n % 128)*2 ^ (7 *i):=by
     conv=>lhs;rw[this]
     rw[bl_,Nat.mul_comm 128 (n / 128),Nat.mul_assoc]
    rw[e2];have e3:n % 128+128 - 128=n % 128:=by omega
    rw[e3];omega
   ·simp only[r_]
    congr 1
    omega
theorem ik1 (n:Nat) (r:List UInt8) (hn:n < 2 ^ 64):take (put n++r)=(n,(put n).length,0):=by
 have:=gq2 9 0 0 n r rfl (by omega) (by simpa using hn);simpa [take,put] using this
end Pn
end
section
open Go.RowKit
theorem eq1:(Tryz.prog.info? 5).map (fun i=>(i.zero,i.size,i.bytes))=some (some (.int .u8 0),1,1):=by kernel_rfl
theorem pk3 (x:BitVec 32):bts (Crc.four x)=[.int .u8 ((x.toNat:Int) % 256),.int .u8 ((x.toNat:Int) / 256 % 256),.int .u8 ((x.toNat:Int) / 65536 % 256),.int .u8 ((x.toNat:Int) / 16777216)]:=by
 have:=x.isLt;have h4:x.toNat / 16777216 % 256=x.toNat / 16777216:=X_ (by omega);simp[bts,Crc.four,h4]
theorem wj1 (A:Option Addr) (n c:Nat) (l:List UInt8) (w:World) (hn:n≤c) (hm:c≤maxLen) (hbig:n≤1073741824) (hr:Row w.heap.size w A n 1 (bts l)):
  Calls Tryz.prog 288 #[.slice A n c] w fun e w'=>∃A' c',e=.returned (.slice A' (n+4) c')∧w'.ownsRow w.heap.size 5 1 (.slice A' (n+4) c') (n+4) (bts (Crc.ny l))∧n+4≤c'∧c'≤maxLen∧Below w.heap.size w w':=by
 obtain⟨i0,hi0,hz0,hz1,hz2⟩:=info_parts eq1;go_enter Tryz.func288,Tryz.ntmps288;go_wp2_with fail;refine(gv5 A n c l w hn hm hr).mono ?_;rintro e w1 ⟨rfl,hb1⟩;generalize hx:Crc.sum l=x;have HX:=H_ hx;clear hx;have hx0:0≤(x.toNat:Int):=by omega
 have hx1:(x.toNat:Int)≤4294967295:=by have:=x.isLt;omega
 go_wp2_with (at_builtin;refine iy ?_);refine gz (ry rfl (.const (.slice none 0 0)) (.tmp 6) _ rfl w.heap.size 5 i0 _ 1 1 Tryz.underlying56 hi0 hz0 hz1 hz2 rfl (by omega) w hb1 hb1.size rfl w.heap.size A n c (bts l) rfl (hr.below hb1) (xy l) (by unfold maxLen;omega) (by omega) ?_);intro A2 c2 w2 hown2 hb2 hg2 hc2 hm2;go_wp2_with (at_builtin;refine iy ?_);have hrow:Row (w2.heap.size+1) (w2.alloc (.cells #[.int .u8 ((x.toNat:Int) % 256),.int .u8 ((x.toNat:Int) / 256 % 256),.int .u8 ((x.toNat:Int) / 65536 % 256),.int .u8 ((x.toNat:Int) / 16777216)] 5)) (some ⟨w2.heap.size,0,none⟩) 4 1 (bts (Crc.four x)):=by
  rw[pk3];exact Row.new w2 _ _ rfl
 refine gz (jq rfl (.tmp 7) (.tmp 19) _ rfl w.heap.size 5 i0 _ 1 1 Tryz.underlying56 hi0 hz0 hz1 hz2 rfl (by omega) w (hb2.alloc hb2.size _) (by have:=hb2.size;simp;omega) (.slice A2 n c2) n (bts l) rfl (hown2.alloc _) (w2.heap.size+1) _ 4 4 (bts (Crc.four x)) rfl hrow (xy _) (n+4) (bts (l++Crc.four x)) rfl (tq1 _ _).symm (by unfold maxLen;omega) (by omega) ?_);intro A3 c3 w3 hown3 hb3 _ hc3 hm3;go_wp2;go_ret;exact⟨A3,c3,rfl,by rw[Crc.ny,HX.out];exact hown3,hc3,hm3,hb3⟩
end
section
open Go.RowKit
theorem ij5 (x:Nat):bits .or .u8 ((x:Int) % 256) 128=((UInt8.ofNat (x % 128+128)).toNat:Int):=by
 have key:∀y:Fin 256,bits .or .u8 ((y.val:Nat):Int) 128=((y.val % 128+128:Nat):Int):=by decide+kernel
 have h:=key ⟨x % 256,bm_ _ (by decide)⟩;simp only at h;rw[show ((x:Int) % 256)=((x % 256:Nat):Int) from by omega,h,UInt8.toNat_ofNat'];omega
theorem bq2 (x:Nat):(x:Int) % 256=((UInt8.ofNat x).toNat:Int):=by
 rw[UInt8.toNat_ofNat'];omega
theorem ak3 (w:World) (e:TypeId) (c:UInt8):Row (w.heap.size+1) (w.alloc (.cells #[.int .u8 (c.toNat:Int)] e)) (some ⟨w.heap.size,0,none⟩) 1 1 (bts [c]):=by
 have:=Row.new w #[.int .u8 (c.toNat:Int)] e (n:=1) (size:=1) rfl;simpa [bts] using this
theorem put_any (A:Option Addr) (N c:Nat) (l:List UInt8) (n:Nat) (hn:n < 18446744073709551616) (w:World) (hN:N≤1073741824) (hr:Row w.heap.size w A N 1 (bts l)):
  Calls Tryz.prog 251 #[.slice A N c,.int .u64 (n:Int)] w fun e w'=>∃A' c',e=.returned (.slice A' (N+(Pn.put n).length) c')∧
   w'.ownsRow w.heap.size 5 1 (.slice A' (N+(Pn.put n).length) c') (N+(Pn.put n).length) (bts (l++Pn.put n))∧N+(Pn.put n).length≤c'∧c'≤maxLen∧Below w.heap.size w w':=by
 obtain⟨i0,hi0,hz0,hz1,hz2⟩:=info_parts eq1;go_enter Tryz.func251,Tryz.ntmps251;go_wp2_with (at_builtin;refine iy ?_);refine gz (ry rfl (.const (.slice none 0 0)) (.tmp 6) _ rfl w.heap.size 5 i0 _ 1 1 Tryz.underlying56 hi0 hz0 hz1 hz2 rfl (by omega) w b0_ l_ rfl w.heap.size A N c (bts l) rfl hr (xy l) (by unfold maxLen;omega) (by omega) ?_);intro A2 c2 w2 hown2 hb2 hg2 hc2 hm2;go_wp2
 go_loopw [5,1] (fun o m wr=>∃(k n':Nat) (pre:List UInt8) (A':Option Addr) (c':Nat),o=.slice A' (N+k) c'∧m=.int .u64 (n':Int)∧wr.ownsRow w.heap.size 5 1 (.slice A' (N+k) c') (N+k) (bts (l++pre))∧N+k≤c'∧c'≤maxLen∧
  pre++Pn.putF (9 - k) n'=Pn.put n∧k≤9∧n' < 2 ^ (64 - 7 *k)∧Below w.heap.size w wr) (fun _ m _=>(intOf m).toNat)
 case atStart=>exact⟨0,n,[],A2,c2,rfl,rfl,by simpa using hown2,hc2,hm2,rfl,by omega,by simpa using hn,hb2⟩
 case round=>
  obtain⟨k,n',pre,A',c',rfl,rfl,hown,hc',hm',hp,hk,hl,hb⟩:=hrel;have hpl:pre.length=k:=by
   have h1:=hown.1;rw[pq,e_]at h1;have h2:=hr.xk;omega
  have HP:=H_ hp;have HL:=H_ hl;have HPL:=H_ hpl;have h64:n' < 18446744073709551616:=by
   refine L_ hl ?_;exact bv_ (n:=2) (by decide) (show 64 - 7 *k≤64 by omega)
  clear hp hl hpl
  by_cases h128:128≤n'
  ·have hlt:((n':Int) < 128)=False:=by simp;omega
   have hge:((128:Int)≤(n':Int)):=by omega
   go_wp2_with (at_builtin;refine iy ?_);have hbox:Row (wr.heap.size+1) (wr.alloc (.cells #[.int .u8 ((UInt8.ofNat (n' % 128+128)).toNat:Int)] 5)) (some ⟨wr.heap.size,0,none⟩) 1 1 (bts [UInt8.ofNat (n' % 128+128)]):=ak3 _ _ _;rw[←ij5]at hbox;refine gz (jq rfl (.tmp 12) (.tmp 16) _ rfl w.heap.size 5 i0 _ 1 1 Tryz.underlying56 hi0 hz0 hz1 hz2 rfl (by omega) w (hb.alloc hb.size _) (h_ hb.size (by simp)) _ (N+k) (bts (l++pre)) rfl (hown.alloc _) (wr.heap.size+1) _ 1 1 (bts [UInt8.ofNat (n' % 128+128)]) rfl hbox (xy _) (N+(k+1)) (bts (l++(pre++[UInt8.ofNat (n' % 128+128)]))) (by omega) (by simp[bts]) (by unfold maxLen;omega) (by omega) ?_);intro A3 c3 w3 hown3 hb3 _ hc3 hm3;go_wp2;go_roundw
   case rel=>
    have hp:pre++Pn.putF (9 - k) n'=Pn.put n:=HP;have hl:n' < 2 ^ (64 - 7 *k):=HL;have hk9:k≠9:=by
     rintro rfl;omega
    refine⟨k+1,n' / 128,pre++[UInt8.ofNat (n' % 128+128)],A3,c3,rfl,?_,hown3,hc3,hm3,?_,by omega,?_,hb3⟩
    ·go_num
    ·rw[←hp,show 9 - k=(9 - (k+1))+1 from by omega,Pn.putF,if_neg (by omega)]
     simp
    ·rw[Nat.div_lt_iff_lt_mul (by decide),show (128:Nat)=2 ^ 7 from rfl,←ch_,show 64 - 7 *(k+1)+7=64 - 7 *k from by omega]
     exact hl
   case measure=>simp[intOf];omega
  ·have hlt:((128:Int)≤(n':Int))=False:=by simp;omega
   go_wp2_with (at_builtin;refine iy ?_);have hbox:Row (wr.heap.size+1) (wr.alloc (.cells #[.int .u8 ((UInt8.ofNat n').toNat:Int)] 5)) (some ⟨wr.heap.size,0,none⟩) 1 1 (bts [UInt8.ofNat n']):=ak3 _ _ _;rw[show ((UInt8.ofNat n').toNat:Int)=(n':Int) from by rw[←bq2];omega]at hbox;have hfin:pre++[UInt8.ofNat n']=Pn.put n:=by
    have hp:pre++Pn.putF (9 - k) n'=Pn.put n:=HP;rw[←hp]
    cases h9:9 - k with
    |zero=>rfl
    |succ j=>rw[Pn.putF,if_pos (by omega)]
   have hlen:k+1=(Pn.put n).length:=by
    have hpl:pre.length=k:=HPL;rw[←hfin];simp[hpl]
   have HF:=H_ hfin;have HLN:=H_ hlen;clear hfin hlen;refine gz (jq rfl (.tmp 18) (.tmp 21) _ rfl w.heap.size 5 i0 _ 1 1 Tryz.underlying56 hi0 hz0 hz1 hz2 rfl (by omega) w (hb.alloc hb.size _) (h_ hb.size (by simp)) _ (N+k) (bts (l++pre)) rfl (hown.alloc _) (wr.heap.size+1) _ 1 1 (bts [UInt8.ofNat n']) rfl hbox (xy _) (N+(Pn.put n).length) (bts (l++Pn.put n)) (by have h:k+1=(Pn.put n).length:=HLN;omega) (by have h:pre++[UInt8.ofNat n']=Pn.put n:=HF;rw[←h];simp[bts]) (by have:=(Pn.ik n).2;unfold maxLen;omega) (by have:=(Pn.ik n).2;omega) ?_);intro A3 c3 w3 hown3 hb3 _ hc3 hm3;go_wp2;go_ret;exact⟨A3,c3,rfl,hown3,hc3,hm3,hb3⟩
end
end Go.Proofs.YthjdpplgfdihoaaGreatDoor
