/- Some of the texts. No conditions. -/
import Derived.Lib.Hide
import Derived.RangeFuncRecord
import Derived.Deep.RegionHeld3
import Derived.ProofKit
import Derived.Deep.AppendLies
import Derived.Test.YtkdbagdiplpcfaaGreatDoorRows
import Derived.WalkSpells
import Derived.WalkLawsBesides
import Derived.Deep.DeepCutAuto

set_option linter.unusedSimpArgs false
set_option linter.unusedVariables false
set_option maxRecDepth 100000
set_option maxHeartbeats 16000000
namespace Go.Proofs.YtkdbagdiplpcfaaGreatDoor
end Go.Proofs.YtkdbagdiplpcfaaGreatDoor
namespace Go.Proofs.Tryz
end Go.Proofs.Tryz
namespace Go.Shelf
end Go.Shelf
namespace Go.Lib
end Go.Lib
namespace Go.Proofs.YtkdbagdiplpcfaaGreatDoor
open Go
variable {P:Program} {ops:Array Oper} {Q:Exit→Act→World→Prop} {md:Region.Mode} {S:World→Prop}
theorem wpT {i:Nat} {oi:Oper} {v:Value} {fuel:Nat} {listed:Array Bool} {a:Act} {w:World}
  (hv:∀w,S w→(execOp a.eval oi).run P w=.ok (.value v) w) (hS:S w)
  (h:wpAnyH P md ops Q S fuel (listed.setIfInBounds i true) (a.put oi.dst v) w)
  (hi:ops[i]?=some oi:=by exact rfl) (hs:Region.noSelect ops=true:=by kernel_rfl) (hf:Region.free md ops listed i=true:=by kernel_rfl) (hr:(Region.ready md ops listed).contains i=true:=by kernel_rfl)
  (hQ:∀c a w,Q (.panic c) (a.put oi.dst v) w→Q (.panic c) a w:=by exact fun _ _ _ h=>h)
  (hw:Region.wanted oi (yielded ops a.tmps)=true:=by rfl):wpAnyH P md ops Q S (fuel+1) listed a w:=
 wpAnyH_take hi hs hf hr hQ (Or.inl ⟨hw,hv⟩) hS h
theorem wpT0 {i:Nat} {oi:Oper} {fuel:Nat} {listed:Array Bool} {a:Act} {w:World} (hS:S w)
  (h:wpAnyH P md ops Q S fuel (listed.setIfInBounds i true) (a.put oi.dst undef) w)
  (hi:ops[i]?=some oi:=by exact rfl) (hs:Region.noSelect ops=true:=by kernel_rfl) (hf:Region.free md ops listed i=true:=by kernel_rfl) (hr:(Region.ready md ops listed).contains i=true:=by kernel_rfl)
  (hQ:∀c a w,Q (.panic c) (a.put oi.dst undef) w→Q (.panic c) a w:=by exact fun _ _ _ h=>h)
  (hw:Region.wanted oi (yielded ops a.tmps)=false:=by rfl):wpAnyH P md ops Q S (fuel+1) listed a w:=
 wpAnyH_take hi hs hf hr hQ (Or.inr ⟨hw,rfl⟩) hS h
abbrev Hv (P:Program) (S:World→Prop) (a:Act) (oi:Oper) (v:Value):Prop:=∀w,S w→(execOp a.eval oi).run P w=.ok (.value v) w
theorem w_v (i:Nat) {oi:Oper} {v:Value} {fuel:Nat} {listed:Array Bool} {a:Act} {w:World} (hS:S w)
  (h:wpAnyH P md ops Q S fuel (listed.setIfInBounds i true) (a.put oi.dst v) w)
  (hi:ops[i]?=some oi:=by exact rfl) (hs:Region.noSelect ops=true:=by kernel_rfl) (hf:Region.free md ops listed i=true:=by kernel_rfl) (hr:(Region.ready md ops listed).contains i=true:=by kernel_rfl)
  (hQ:∀c a w,Q (.panic c) (a.put oi.dst v) w→Q (.panic c) a w:=by exact fun _ _ _ h=>h)
  (hw:Region.wanted oi (yielded ops a.tmps)=true:=by rfl) (k:Hv P S a oi v):wpAnyH P md ops Q S (fuel+1) listed a w:=
 wpT k hS h hi hs hf hr hQ hw
theorem w_r (i:Nat) {o:Oper} {fuel:Nat} {listed:Array Bool} {a:Act} {w:World}
  (h:∀K:Act→World→Prop,Shut (∀a w,S w→(S w→wpAnyH P md ops Q S fuel (listed.setIfInBounds i true) a w)→K a w)→if Region.wanted o (yielded ops a.tmps)=true then Oper.wp P o a w K Q else K (a.put o.dst undef) w)
  (hi:ops[i]?=some o:=by exact rfl) (hr:Region.ready md ops listed=[i]:=by kernel_rfl):wpAnyH P md ops Q S (fuel+1) listed a w:=
 wpAnyH_ready hr (by simp) (AllReadyH.cons hi h AllReadyH.nil)
theorem gE0 {α:Type _} {a:α} {l:List α}:(a::l)[0]?=some a:=List.getElem?_cons_zero
theorem gE1 {α:Type _} {a:α} {l:List α} {i:Nat}:(a::l)[i+1]?=l[i]?:=List.getElem?_cons_succ
theorem b_ (w:World) (o:Obj):RowKit.Below w.heap.size w (w.alloc o):=(RowKit.Below.refl w.heap.size w).alloc (Nat.le_refl _) o
theorem b0_ {B:Nat} {w:World}:RowKit.Below B w w:=RowKit.Below.refl _ _
theorem l_ {n:Nat}:n≤n:=Nat.le_refl n
theorem z_ {n:Nat}:0≤n:=Nat.zero_le n
theorem n_ {α:Sort _} (x:α):∃a,a=x:=⟨_,rfl⟩
theorem H_ {p:Prop} (h:p):RowKit.Hid p:=h
theorem o_ {p:Prop} (h:p:=by omega):p:=h
theorem s_ {p:Prop} (h:p:=by simp):p:=h
theorem m_ {P:Program} {f:FuncId} {x:Array Value} {w:World} {R R':Ending→World→Prop} (h:RowKit.Hid (Calls P f x w R)) (k:∀e w',R e w'→R' e w'):Calls P f x w R':=h.mono k
theorem w_d {fuel:Nat} {listed:Array Bool} {a:Act} {w:World} (h:Q .normal a w) (hd:Region.ready md ops listed=[]:=by kernel_rfl):wpAnyH P md ops Q S fuel listed a w:=wpAnyH_done hd h fuel
theorem w_h {id:Nat} {a:Act} (w:World) (h:RowKit.Below w.heap.size w w.drew→wpAnyH P .any ops Q (fun w'=>RowKit.Below w.heap.size w w') ops.size (Array.replicate ops.size false) a w.drew) (hp:P.follows Departure.mixedOrders=true:=by rfl):Code.wp P (Code.region id ops true) Q a w:=wp_region_held_drew (S:=fun w'=>RowKit.Below w.heap.size w w') hp ⟨rfl,rfl,rfl,Nat.le_refl _,fun _ _=>rfl⟩ h
abbrev a_:=@List.mem_singleton
abbrev c_:=@And.intro
abbrev d_:=@List.length_append
abbrev e_:=@List.mem_cons_of_mem
abbrev f_:=@List.mem_cons
abbrev g_:=@List.take_of_length_le
abbrev h_:=@List.getElem?_eq_getElem
abbrev i_:=@List.mem_cons_self
abbrev j_:=@Nat.le_trans
abbrev k_:=@List.mem_append
abbrev p_:=@List.mem_append_right
abbrev q_:=@List.length_cons
abbrev r_:=@List.take_succ_eq_append_getElem
abbrev t_:=@List.mem_of_getElem?
abbrev u_:=@List.getElem_mem
abbrev v_:=@List.length_take
abbrev w_:=@Nat.zero_le
abbrev x_:=@List.mem_append_left
abbrev y_:=@Nat.le_refl
abbrev A_:=@Array.getElem?_eq_some_iff
abbrev B_:=@List.getD_eq_getElem?_getD
abbrev C_:=@List.nil_append
abbrev D_:=@IntWalk.i64_in
abbrev E_:=@World.ownsRow_nil
abbrev F_:=@List.length_map
abbrev G_:=@Bool.and_eq_true
abbrev I_:=@List.length_drop
abbrev J_:=@List.getElem?_eq_some_iff
abbrev K_:=@List.append_assoc
abbrev L_:=@List.length_filter_le
abbrev M_:=@World.block_lt_of_cell?
abbrev N_:=@Nat.lt_of_lt_of_le
abbrev O_:=@List.getElem?_append_left
abbrev P_:=@List.mem_filter
abbrev Q_:=@World.size_alloc
abbrev R_:=@World.cell?_alloc_lt
abbrev S_:=@List.flatMap_cons
abbrev T_:=@List.cons_append
abbrev U_:=@List.pairwise_cons
abbrev V_:=@List.length_nil
abbrev W_:=@List.mem_map
abbrev X_:=@List.any_eq_false
abbrev Y_:=@World.cell?_setCell_other
abbrev Z_:=@List.map_cons
abbrev aa_:=@World.putObj_heap_other
abbrev ab_:=@List.all_eq_true
abbrev ac_:=@List.mem_flatMap
abbrev ad_:=@List.length_singleton
abbrev ae_:=@List.take_append_of_le_length
abbrev af_:=@Bool.false_eq_true
abbrev ag_:=@List.length_eq_zero_iff
abbrev ah_:=@Nat.lt_or_ge
abbrev ai_:=@Option.some.inj
abbrev aj_:=@List.getElem?_append_right
abbrev ak_:=@List.append_nil
abbrev al_:=@List.take_append_drop
abbrev am_:=@List.map_append
abbrev an_:=@Nat.zero_add
abbrev ao_:=@Nat.eq_zero_or_pos
abbrev ap_:=@List.pairwise_iff_getElem
abbrev aq_:=@List.filter_eq_nil_iff
abbrev ar_:=@List.filter_cons
abbrev au_:=@List.drop_append_of_le_length
abbrev av_:=@Bool.not_eq_true'
abbrev aw_:=@Nat.le_add_right
abbrev ax_:=@List.getElem?_drop
abbrev ay_:=@List.any_eq_true
abbrev az_:=@List.filter_eq_self
abbrev aA_:=@List.size_toArray
abbrev aB_:=@Nat.mod_eq_of_lt
abbrev aC_:=@Option.some.injEq
abbrev aD_:=@List.set_cons_succ
abbrev aE_:=@List.length_set
abbrev aF_:=@List.mem_take_iff_getElem
abbrev aG_:=@List.drop_eq_nil_of_le
abbrev aH_:=@World.cell?_of_block
abbrev aI_:=@List.sum_cons
abbrev aJ_:=@List.set_cons_zero
abbrev aK_:=@List.map_map
abbrev aL_:=@List.not_mem_nil
abbrev aM_:=@List.nodup_append
abbrev aN_:=@Classical.byContradiction
abbrev aO_:=@List.pairwise_append
abbrev aP_:=@List.mem_of_mem_take
abbrev aQ_:=@List.filter_append
abbrev aR_:=@List.getElem_append_left
abbrev aS_:=@List.take_append_getElem
abbrev aT_:=@List.foldl_cons
abbrev aU_:=@Nat.mul_le_mul_right
abbrev aV_:=@List.take_take
abbrev aW_:=@List.nodup_cons
abbrev aX_:=@List.getElem_of_mem
abbrev aY_:=@List.Pairwise.nil
abbrev aZ_:=@List.drop_drop
abbrev a0_:=@Nat.min_eq_left
abbrev a1_:=@List.getElem?_take
abbrev a2_:=@List.set_eq_take_append_cons_drop
abbrev a3_:=@Option.map_some
abbrev a4_:=@List.pairwise_singleton
abbrev a5_:=@List.getElem_cons_zero
abbrev a6_:=@List.foldl_append
abbrev a7_:=@Option.mem_toList
abbrev a8_:=@List.flatMap_append
abbrev a9_:=@List.find?_append
abbrev ba_:=@List.mem_iff_getElem?
abbrev bb_:=@Nat.mul_one
abbrev bc_:=@List.eq_nil_of_length_eq_zero
abbrev bd_:=@Array.replicate_succ
abbrev be_:=@Array.replicate_zero
abbrev bf_:=@List.findIdx_getElem
abbrev bg_:=@Array.toList_push
abbrev bh_:=@List.length_pos_iff
abbrev bi_:=@List.append_toArray
abbrev bj_:=@List.all_append
abbrev bk_:=@Bool.decide_and
abbrev bl_:=@List.toList_toArray
abbrev bm_:=@Nat.add_zero
abbrev bn_:=@List.drop_eq_getElem_cons
abbrev bo_:=@List.sublist_append_right
abbrev bp_:=@List.drop_left
abbrev bq_:=@List.getElem?_modify
abbrev br_:=@List.getElem?_map
abbrev bs_:=@List.push_toArray
abbrev bt_:=@World.cell?_setCell_same
abbrev bu_:=@Nat.add_mul
abbrev bv_:=@List.flatten_append
abbrev bw_:=@List.mem_range
abbrev bx_:=@List.getElem?_set_self
abbrev by_:=@World.putObj_heap_same
abbrev bz_:=@List.find?_eq_none
abbrev bA_:=@Nat.le_of_eq
abbrev bB_:=@List.flatten_cons
abbrev bC_:=@List.getElem?_of_mem
abbrev bD_:=@World.alloc_heap_new
abbrev bE_:=@List.mem_iff_getElem
abbrev bF_:=@List.getElem?_set_ne
abbrev bG_:=@Nat.pow_le_pow_right
abbrev bH_:=@List.getElem_append_right
abbrev bI_:=@List.map_toArray
abbrev bJ_:=@List.getElem_set
abbrev bK_:=@List.drop_append
abbrev bL_:=@Array.toList_modify
abbrev bM_:=@List.drop_succ_cons
abbrev bN_:=@List.getD_cons_zero
abbrev bO_:=@List.map_nil
abbrev bP_:=@Nat.mod_lt
abbrev bQ_:=@Nat.sub_self
abbrev bR_:=@Bool.or_eq_true
abbrev bS_:=@Option.isNone_some
abbrev bT_:=@List.any_append
abbrev bU_:=@Nat.add_sub_cancel
abbrev bV_:=@List.find?_cons
abbrev bW_:=@Prod.mk.injEq
abbrev bX_:=@List.findIdx_lt_length
abbrev bY_:=@List.not_of_lt_findIdx
abbrev bZ_:=@List.getElem_cons_drop
abbrev b1_:=@Option.map_eq_some_iff
abbrev b2_:=@Array.size_append
abbrev b3_:=@Function.comp_def
abbrev b4_:=@Bool.not_eq_false
abbrev b5_:=@Bool.not_false
abbrev b6_:=@List.length_replicate
abbrev b7_:=@Bool.or_eq_false_iff
abbrev b8_:=@List.mem_of_mem_drop
abbrev b9_:=@List.length_dropLast
abbrev ca_:=@Bool.not_true
abbrev cb_:=@Bool.eq_iff_iff
abbrev cc_:=@List.take_succ_cons
abbrev cd_:=@Nat.two_pow_add_eq_or_of_lt
abbrev ce_:=@Int.tmod_eq_emod_of_nonneg
abbrev cf_:=@Option.isSome_none
abbrev cg_:=@List.Sublist.trans
abbrev ch_:=@Nat.lt_or_gt_of_ne
abbrev ci_:=@List.findIdx?_eq_none_iff
abbrev cj_:=@Array.getElem?_eq_getElem
abbrev ck_:=@List.mem_of_find?_eq_some
abbrev cl_:=@List.take_sublist
abbrev cm_:=@Bool.true_and
abbrev cn_:=@Bool.or_false
abbrev co_:=@List.getElem_map
abbrev cp_:=@List.ext_getElem
abbrev cq_:=@World.cell?_drew
abbrev cr_:=@Int.natCast_zero
abbrev cs_:=@Option.getD_some
abbrev ct_:=@List.mem_nil_iff
abbrev cu_:=@Bool.not_eq_true
abbrev cv_:=@Nat.succ_mul
abbrev cw_:=@List.range_succ
abbrev cx_:=@Option.map_none
abbrev cy_:=@List.take_left
abbrev cz_:=@Nat.mul_pos
abbrev cA_:=@Nat.pow_add
abbrev cB_:=@Nat.le_succ
abbrev cC_:=@List.drop_set
end Go.Proofs.YtkdbagdiplpcfaaGreatDoor
namespace Go.Proofs.YtkdbagdiplpcfaaGreatDoor
open Go.Proofs.Tryz Go Go.RowKit Go.Lib Go.Shelf
section
theorem add_block (a:Addr) (n:Nat):(a.add n).block=a.block:=by
 unfold Addr.add;split<;>rfl
theorem bw3 (a:Addr):a.add 0=a:=rfl
theorem vj1 (a:Addr) (i j:Nat):(a.add i).add j=a.add (i+j):=by
 unfold Addr.add
 rcases ao_ i with hi|hi<;>rcases ao_ j with hj|hj
 ·simp[hi,hj]
 ·rw[if_neg (by omega:¬j=0),if_pos hi,if_neg o_,hi,an_]
 ·rw[if_pos hj,hj,if_neg o_,if_neg o_]
  rfl
 ·rw[if_neg (by omega:¬j=0),if_neg (by omega:¬i=0),if_neg o_]
  simp only[Nat.add_assoc]
structure Row (B:Nat) (w:World) (A:Option Addr) (n size:Nat) (xs:List Value):Prop where
 len:xs.length=n *size
 cell:∀j (h:j < xs.length),∃a,A=some a/\a.block < B/\w.cell? (a.add j)=some (xs[j])
variable {B B' n size:Nat} {w w':World} {A:Option Addr} {xs:List Value}
theorem Row.nil_:Row B w A 0 size []:=⟨by simp,fun j h=>absurd h s_⟩
theorem Row.up (h:Row B w A n size xs) (C:B<=B'):Row B' w A n size xs:=
 ⟨h.len,fun j hj=>let ⟨a,e,b,c⟩:=h.cell j hj;⟨a,e,o_,c⟩⟩
theorem Row.keep (h:Row B w A n size xs) (C:∀p:Addr,p.block < B->w'.cell? p=w.cell? p):Row B w' A n size xs:=
 ⟨h.len,fun j hj=>let ⟨a,e,b,c⟩:=h.cell j hj;⟨a,e,b,(C _ (by rw[add_block];exact b)).trans c⟩⟩
theorem Row.below (h:Row B w A n size xs) (C:Below B w w'):Row B w' A n size xs:=h.keep fun _ E=>C.cell E
theorem Row.arg (h:Row B w A n size xs) (C:B<=w.heap.size):Row w.heap.size w A n size xs:=h.up C
theorem Row.alloc (h:Row B w A n size xs) (C:B<=w.heap.size) (o:Obj):Row B (w.alloc o) A n size xs:=
 h.keep fun p E=>R_ w o p o_
theorem Row.drew (h:Row B w A n size xs):Row B w.drew A n size xs:=h.keep fun _ _=>rfl
theorem Row.drewN (h:Row B w A n size xs) (k:Nat):Row B (w.drewN k) A n size xs:=h.keep fun _ _=>rfl
theorem Row.at1 (h:Row B w A n 1 xs) {k:Nat} (E:k < n):∃a v,A=some a/\a.block < B/\xs[k]?=some v/\w.cell? (a.add k)=some v:=by
 have C:k < xs.length:=by have:=h.len;omega
 obtain⟨a,e,b,c⟩:=h.cell k C;exact⟨a,xs[k],e,b,h_ C,c⟩
theorem Row.some_ (h:Row B w A n size xs) (C:0 < xs.length):∃a,A=some a/\a.block < B:=by
 obtain⟨a,e,b,_⟩:=h.cell 0 C;exact⟨a,e,b⟩
theorem Row.cells {a:Addr} (h:Row B w (some a) n size xs):∀j u,xs[j]?=some u->w.cell? (a.add j)=some u:=by
 intro j u C;obtain⟨E,rfl⟩:=J_.1 C;obtain⟨H,e,_,c⟩:=h.cell j E;injection e with e;subst e;exact c
theorem Row.cut (h:Row B w A n size xs) {k m:Nat} (U:k<=m) (Z:m<=n) {A':Option Addr} (I:k < m->A'=A.map (·.add (k *size))):
  Row B w A' (m - k) size ((xs.drop (k *size)).take ((m - k)*size)):=by
 have J:(m - k)*size<=xs.length - k *size:=by
  rw[h.len,<-Nat.sub_mul];exact aU_ _ o_
 refine⟨by rw[v_,I_];omega,fun j hj=>?_⟩;have C:j < (m - k)*size:=by rw[v_]at hj;omega
 have E:k < m:=by
  rcases ah_ k m with H|H
  ·exact H
  ·rw[show m - k=0 from by omega,Nat.zero_mul]at C;omega
 obtain⟨a,rfl,O,Q⟩:=h.cell (k *size+j) o_;refine⟨a.add (k *size),I E,by rw[add_block];exact O,?_⟩;rw[vj1,Q];simp
theorem Row.pre (h:Row B w A n size xs) {m:Nat} (C:m<=n):Row B w A m size (xs.take (m *size)):=by
 have:=h.cut (A':=A) (w_ m) C (fun _=>by cases A<;>simp[Addr.add]);simpa using this
theorem Row.new (w:World) (cs:Array Value) (e:TypeId) {n size:Nat} (hs:cs.size=n *size) (C:Nat×Nat:=(0,0)):Row (w.heap.size+1) (w.alloc (.cells cs e C)) (some ⟨w.heap.size,0,none⟩) n size cs.toList:=by
 refine⟨by simpa using hs,fun j hj=>⟨_,rfl,by simp,?_⟩⟩;have:((⟨w.heap.size,0,none⟩:Addr).add j)=⟨w.heap.size,j,none⟩:=by
  unfold Addr.add;split<;>simp_all
 rw[this,cell_of_row _ _ _ _ _ _ (heap_alloc_new w _)];simp at hj ⊢
theorem Row.own {base:Nat} {e:TypeId} {c:Nat} (h:w.ownsRow base e size (.slice A n c) n xs):Row w.heap.size w A n size xs:=by
 refine⟨h.1,fun j hj=>?_⟩
 rcases h.2 with ⟨E,H⟩|⟨g,cap,cur,E,O,I,_,_,_,C⟩
 ·subst H
  have:=h.1;omega
 ·injection E with J _ _
  subst J;exact⟨_,rfl,(A_.1 I).1,h.cells (g:=g) rfl j _ (h_ hj)⟩
theorem gz {base:Nat} {e:TypeId} {v:Value} (h:w.ownsRow base e size v n xs):
  ∃A c,v=.slice A n c/\n<=c/\c<=maxLen/\(∀a,A=some a->base<=a.block/\a.block < w.heap.size/\a.spot=none/\a.off=0):=by
 rcases h.2 with ⟨rfl,rfl⟩|⟨g,cap,cur,rfl,C,E,H,I,_⟩
 ·exact⟨none,0,rfl,y_ _,w_ _,fun a h=>by cases h⟩
 ·exact⟨_,cap,rfl,H,I,fun a h=>by cases h;exact⟨C,(A_.1 E).1,rfl,rfl⟩⟩
theorem own_below {base:Nat} {e:TypeId} {v:Value} (h:w.ownsRow base e size v n xs) (C:Below w.heap.size w w'):w'.ownsRow base e size v n xs:=
 h.kept (row:=none) ⟨C.os,C.tape,C.output,C.size,fun k E _=>C.block k E⟩ (by cases v.ownBlock<;>simp)
theorem own_base {base base':Nat} {e:TypeId} {v:Value} (h:w.ownsRow base e size v n xs) (E:base'<=base):w.ownsRow base' e size v n xs:=by
 refine⟨h.1,?_⟩
 rcases h.2 with C|⟨g,cap,cur,rfl,h1,r⟩
 ·exact .inl C
 ·exact .inr ⟨g,cap,cur,rfl,o_,r⟩
theorem lx2 {base:Nat} {e:TypeId} {v:Value} {a:World} (h:Below base a w) (C:w.ownsRow base e size v n xs) (E:w.grownBy w' v.ownBlock) (H:base<=w.heap.size):Below base a w':=
 h.grown E H (fun k I=>(C.lt k I).1)
theorem below_drewN {B:Nat} {a w:World} (h:Below B a w) (n:Nat):Below B a (w.drewN n):=⟨h.os,h.tape,h.output,h.size,h.block⟩
theorem xk5 {P:Program} (w:World) (base:Nat) (t ty e:TypeId) (i:TypeInfo) (z:Value) (size bytes:Nat) (ht:P.underlying t=some (.slice e)) (hi:P.info? e=some i) (hz:i.zero=some z)
  (I:i.size=size) (a1:i.bytes=bytes) (a2:z.cells.size=size) (O:0 < size) (v:Value) (n:Nat) (xs:List Value) (C:w.ownsRow base e size v n xs)
  (B:Nat) (A:Option Addr) (m c:Nat) (news:List Value) (Q:Row B w A m size news) (h1:∀u∈news,u.oneCell'=true)
  (a4:n+m<=maxLen) (H:(n+m)*bytes<=140737488355328) (J:base<=w.heap.size):
  ∃A' E w',(Builtin.append_ #[t,t] ty #[v,.slice A m c]).run P w=.ok (.slice A' (n+m) E) w'/\w'.ownsRow base e size (.slice A' (n+m) E) (n+m) (xs++news)/\w.grownBy w' v.ownBlock/\n+m<=E/\E<=maxLen:=by
 have pack:∀U w',(Builtin.append_ #[t,t] ty #[v,.slice A m c]).run P w=.ok U w'->w'.ownsRow base e size U (n+m) (xs++news)->w.grownBy w' v.ownBlock->
   ∃A' E w',(Builtin.append_ #[t,t] ty #[v,.slice A m c]).run P w=.ok (.slice A' (n+m) E) w'/\w'.ownsRow base e size (.slice A' (n+m) E) (n+m) (xs++news)/\w.grownBy w' v.ownBlock/\n+m<=E/\E<=maxLen:=by
  intro U w' h2 h3 h4;obtain⟨A',E,rfl,h5,h6,_⟩:=gz h3;exact⟨A',E,w',h2,h3,h4,h5,h6⟩
 rcases ao_ m with h0|h0
 ·subst h0
  have hn:news=[]:=bc_ (by simpa using Q.len);subst hn;rw[ak_]at pack ⊢;refine pack v w ?_ C ⟨rfl,rfl,rfl,y_ _,fun _ _ _=>rfl⟩
  rcases C.2 with ⟨rfl,rfl⟩|⟨g,cap,cur,rfl,_,_,a6,_⟩
  ·rcases A with _|a<;>simp[Builtin.append_,run_underlying ht,sizeOf,typeInfo,hi,Builtin.lenOf,Builtin.firstCells,loadCells,loadCellsFrom]
  ·rcases A with _|a<;>simp[Builtin.append_,run_underlying ht,sizeOf,typeInfo,hi,Builtin.lenOf,Builtin.firstCells,loadCells,loadCellsFrom,a6,storeCells]
 ·have Z:0 < news.length:=by
   rw[Q.len];exact cz_ h0 O
  obtain⟨a,rfl,_⟩:=Q.some_ Z;obtain⟨U,w',h2,h3,h4,_⟩:=run_append_own_at (P:=P) w base t ty e i z size bytes ht hi hz I a1 a2 O v n xs C a m c news Q.len Q.cells h1 a4 H J;exact pack U w' h2 h3 h4
theorem zq5 {P:Program} (w:World) {o:Oper} {a:Act} {K:Act->World->Prop} {Q:Exit->Act->World->Prop} (s x:Operand) (t:TypeId)
  (ho:o.op=.call { callee:=.builtin .append,args:=#[s,x],argTypes:=#[t,t] })
  (base:Nat) (e:TypeId) (i:TypeInfo) (z:Value) (size bytes:Nat) (ht:P.underlying t=some (.slice e)) (hi:P.info? e=some i) (hz:i.zero=some z)
  (I:i.size=size) (U:i.bytes=bytes) (Z:z.cells.size=size) (a0:0 < size) (w0:World) (hb:Below base w0 w) (C:base<=w.heap.size) (v:Value) (n:Nat) (xs:List Value) (hs:a.eval s=v) (H:w.ownsRow base e size v n xs)
  (B:Nat) (A:Option Addr) (m c:Nat) (news:List Value) (hx:a.eval x=.slice A m c) (hr:Row B w A m size news) (h1:∀u∈news,u.oneCell'=true)
  (a1:n+m<=maxLen) (E:(n+m)*bytes<=140737488355328)
  (h:∀A' J w',w'.ownsRow base e size (.slice A' (n+m) J) (n+m) (xs++news)->Below base w0 w'->w.grownBy w' v.ownBlock->n+m<=J->J<=maxLen->K (a.put o.dst (.slice A' (n+m) J)) w'):o.wp P a w K Q:=by
 obtain⟨A',J,w',O,h2,h3,h4,h5⟩:=xk5 (P:=P) w base t o.type e i z size bytes ht hi hz I U Z a0 v n xs H B A m c news hr h1 a1 E C;unfold Oper.wp execOp;simp only[ho,resolve,invoke,builtin,Sem.run_bind,Sem.run_pure,Result.andThen_ok,bI_,Z_,bO_,hs,hx,O];exact h A' J w' h2 (lx2 hb H h3 C) h3 h4 h5
theorem iq {P:Program} {w:World} {ops:Array Oper} {rest:List Oper} {o:Oper} {a:Act} {Q:Exit->Act->World->Prop} (O:o.guard=none) (s x:Operand) (t:TypeId)
  (ho:o.op=.call { callee:=.builtin .append,args:=#[s,x],argTypes:=#[t,t] })
  (base:Nat) (e:TypeId) (i:TypeInfo) (z:Value) (size bytes:Nat) (ht:P.underlying t=some (.slice e)) (hi:P.info? e=some i) (hz:i.zero=some z)
  (E:i.size=size) (U:i.bytes=bytes) (Z:z.cells.size=size) (a0:0 < size) (w0:World) (hb:Below base w0 w) (H:base<=w.heap.size) (v:Value) (n:Nat) (xs:List Value) (hs:a.eval s=v) (J:w.ownsRow base e size v n xs)
  (B:Nat) (A:Option Addr) (m c:Nat) (news:List Value) (hx:a.eval x=.slice A m c) (hr:Row B w A m size news) (h1:∀u∈news,u.oneCell'=true)
  (N:Nat) (X:List Value) (hN:n+m=N) (hX:xs++news=X) (a1:N<=maxLen) (C:N *bytes<=140737488355328)
  (h:∀A' I w',w'.ownsRow base e size (.slice A' N I) N X->Below base w0 w'->w.grownBy w' v.ownBlock->N<=I->I<=maxLen->wpList P ops Q rest (a.put o.dst (.slice A' N I)) w'):wpList P ops Q (o::rest) a w:=by
 subst hN;subst hX;exact wpList_plain O fun _ hK=>zq5 w s x t ho base e i z size bytes ht hi hz E U Z a0 w0 hb H v n xs hs J B A m c news hx hr h1 a1 C fun A' I w' h2 h3 h4 h5 h6=>hK _ _ (h A' I w' h2 h3 h4 h5 h6)
theorem vw {P:Program} {w:World} {ops:Array Oper} {rest:List Oper} {o:Oper} {a:Act} {Q:Exit->Act->World->Prop} (J:o.guard=none) (s x:Operand) (t:TypeId)
  (ho:o.op=.call { callee:=.builtin .append,args:=#[s,x],argTypes:=#[t,t] })
  (base:Nat) (e:TypeId) (i:TypeInfo) (z:Value) (size bytes:Nat) (ht:P.underlying t=some (.slice e)) (hi:P.info? e=some i) (hz:i.zero=some z)
  (E:i.size=size) (O:i.bytes=bytes) (U:z.cells.size=size) (Z:0 < size) (w0:World) (hb:Below base w0 w) (H:base<=w.heap.size) (hs:a.eval s=.slice none 0 0)
  (B:Nat) (A:Option Addr) (m c:Nat) (news:List Value) (hx:a.eval x=.slice A m c) (hr:Row B w A m size news) (h1:∀u∈news,u.oneCell'=true)
  (a0:m<=maxLen) (C:m *bytes<=140737488355328)
  (h:∀A' I w',w'.ownsRow base e size (.slice A' m I) m news->Below base w0 w'->w.grownBy w' none->m<=I->I<=maxLen->wpList P ops Q rest (a.put o.dst (.slice A' m I)) w'):wpList P ops Q (o::rest) a w:=
 iq J s x t ho base e i z size bytes ht hi hz E O U Z w0 hb H (.slice none 0 0) 0 [] hs (E_ _ _ _ _) B A m c news hx hr h1 m news (an_ m) (C_ news) a0 C
  (by simpa [Value.ownBlock] using h)
theorem dy6 {P:Program} (t e:TypeId) (i:TypeInfo) (z:Value) (H:P.underlying t=some (.slice e)) (hi:P.info? e=some i) (I:i.zero=some z) (h1:i.size=1) (C:z.cells=#[z]) (n:Nat) (O:i.bytes *n<=281474976710656) (Q:n<=9223372036854775807):
  ∃cs:Array Value,cs.toList=List.replicate n z/\∀W:World,(Instr.makeSlice t (.int .i64 (n:Int)) (.int .i64 (n:Int))).run P W=.ok (.slice (some ⟨W.heap.size,0,none⟩) n n) (W.alloc (.cells cs e)):=by
 refine⟨madeCells #[z] n,toList_madeCells_one z n,fun W=>?_⟩;have E:(i.bytes:Int)*(n:Int)<=281474976710656:=by
  have h:((i.bytes *n:Nat):Int)<=281474976710656:=o_
  rwa [Int.natCast_mul]at h
 have J:=run_make (P:=P) W t e i z H hi I .i64 .i64 n n o_ o_ E o_;simpa [h1,C] using J
def Stop (p:Prop):Prop:=p
theorem iy {p:Prop} (h:Stop p):p:=h
theorem bz {p:Prop} (h:p):Stop p:=h
def bts (l:List UInt8):List Value:=l.map fun c=>.int .u8 (c.toNat:Int)
theorem rq (l:List UInt8):(bts l).length=l.length:=by simp[bts]
theorem iv4 (l:List UInt8) (k:Nat):(bts l)[k]?=(l[k]?).map fun c=>.int .u8 (c.toNat:Int):=by simp[bts]
theorem xq1 (a b:List UInt8):bts (a++b)=bts a++bts b:=by simp[bts]
theorem lx1 (l:List UInt8) (k:Nat):bts (l.take k)=(bts l).take k:=by simp[bts]
theorem wj2 (l:List UInt8) (k:Nat):bts (l.drop k)=(bts l).drop k:=by simp[bts]
theorem av1 (l:List UInt8):∀u∈bts l,u.oneCell'=true:=by
 intro u C;simp only[bts,W_]at C;obtain⟨c,_,rfl⟩:=C;rfl
theorem Row.bt {l:List UInt8} (h:Row B w A n 1 (bts l)) {k:Nat} (H:k < n):∃a,∃E:k < l.length,A=some a/\a.block < B/\w.cell? (a.add k)=some (.int .u8 ((l[k]).toNat:Int)):=by
 obtain⟨a,v,e,b,C,I⟩:=h.at1 H;have E:k < l.length:=by have:=h.len;rw[rq]at this;omega
 rw[iv4,h_ E]at C;injection C with C;exact⟨a,E,e,b,by rw[I,<-C]⟩
theorem Row.zk {l:List UInt8} (h:Row B w A n 1 (bts l)):l.length=n:=by have:=h.len;rw[rq]at this;omega
theorem foldl_push (l:List UInt8):∀s:ByteArray,(l.map fun c=>(c.toNat:Int)).foldl (fun r n=>r.push (UInt8.ofNat n.toNat)) s=⟨s.data++l.toArray⟩:=by
 induction l with
 |nil=>intro s;simp
 |cons c l C=>
  intro s;rw[Z_,aT_,C]
  congr 1
  apply Array.toList_inj.1;simp[ByteArray.push]
theorem Row.load {P:Program} {a:Addr} (h:Row B w (some a) n 1 xs):(loadCells a n).run P w=.ok xs.toArray w:=by
 have C:=h.len;have:=run_loadCells_list (P:=P) (w:=w) a xs h.cells
 rwa [show xs.length=n from by omega]at this
theorem ak5 {P:Program} {l:List UInt8} (src dst e:TypeId) (hs:P.underlying src=some (.slice e)) (C:P.underlying e=some (.int .u8)) (hd:P.underlying dst=some .string)
  (h:Row B w A n 1 (bts l)) (c:Nat):(convert src dst (.slice A n c)).run P w=.ok (.string ⟨l.toArray⟩) w:=by
 rw[run_convert_bytes_string w src dst e A n c hs C hd];have H:=h.zk
 rcases A with _|a
 ·have I:n=0:=by
   rcases ao_ n with E|E
   ·exact E
   ·obtain⟨_,_,C,_⟩:=h.bt E
    cases C
  subst I;obtain rfl:=bc_ H;rfl
 ·rw[run_bytesToString w a n c (l.map fun c=>(c.toNat:Int)) (by rw[h.load];simp[bts,b3_]),foldl_push]
  simp
end
section
theorem wz (k:Nat) (x:BitVec k):BitVec.ofInt k (x.toNat:Int)=x:=by
 apply BitVec.eq_of_toNat_eq;simp
theorem qy2 (x y:BitVec 32):bits .and .u32 (x.toNat:Int) (y.toNat:Int)=((x&&&y).toNat:Int):=by
 show IntKind.u32.wrap ((BitVec.ofInt 32 (x.toNat:Int) &&&BitVec.ofInt 32 (y.toNat:Int)).toNat:Int)=_
 rw[wz,wz,IntKind.wrap_u32'];omega
theorem yz1 (x y:BitVec 32):bits .xor .u32 (x.toNat:Int) (y.toNat:Int)=((x ^^^ y).toNat:Int):=by
 show IntKind.u32.wrap ((BitVec.ofInt 32 (x.toNat:Int) ^^^ BitVec.ofInt 32 (y.toNat:Int)).toNat:Int)=_
 rw[wz,wz,IntKind.wrap_u32'];omega
theorem fw4 (x y:BitVec 64):bits .and .u64 (x.toNat:Int) (y.toNat:Int)=((x&&&y).toNat:Int):=by
 show IntKind.u64.wrap ((BitVec.ofInt 64 (x.toNat:Int) &&&BitVec.ofInt 64 (y.toNat:Int)).toNat:Int)=_
 rw[wz,wz,IntKind.wrap_u64];omega
theorem xq4 (x y:BitVec 64):bits .or .u64 (x.toNat:Int) (y.toNat:Int)=((x|||y).toNat:Int):=by
 show IntKind.u64.wrap ((BitVec.ofInt 64 (x.toNat:Int)|||BitVec.ofInt 64 (y.toNat:Int)).toNat:Int)=_
 rw[wz,wz,IntKind.wrap_u64];omega
theorem rx2 (x y:BitVec 64):bits .xor .u64 (x.toNat:Int) (y.toNat:Int)=((x ^^^ y).toNat:Int):=by
 show IntKind.u64.wrap ((BitVec.ofInt 64 (x.toNat:Int) ^^^ BitVec.ofInt 64 (y.toNat:Int)).toNat:Int)=_
 rw[wz,wz,IntKind.wrap_u64];omega
theorem by6 (c:UInt8):((c.toNat:Int) % 4294967296)=((BitVec.ofNat 32 c.toNat).toNat:Int):=by
 have:=c.toNat_lt;simp;omega
theorem zj5 (c:UInt8):(c.toNat:Int)=((BitVec.ofNat 64 c.toNat).toNat:Int):=by
 have:=c.toNat_lt;simp
theorem int_eq {k:IntKind} {a b:Int} (h:a=b):Value.int k a=Value.int k b:=by rw[h]
theorem mq1 {v C:Value} (h:v=C):Ending.returned v=Ending.returned C:=by rw[h]
namespace Crc
def poly:BitVec 32:=0x82f63b78#32
def step (n:BitVec 32):BitVec 32:=(n >>> 1) ^^^ (poly&&&-(n&&&1#32))
def steps:Nat->BitVec 32->BitVec 32
 |0,n=>n
 |k+1,n=>steps k (step n)
def byte (n:BitVec 32) (c:UInt8):BitVec 32:=steps 8 (n ^^^ BitVec.ofNat 32 c.toNat)
def add (n:BitVec 32):List UInt8->BitVec 32
 |[]=>n
 |c::l=>add (byte n c) l
def ones:BitVec 32:=0xffffffff#32
def sum (l:List UInt8):BitVec 32:= ~~~ add ones l
theorem rz2 (n:BitVec 32) (a b:List UInt8):add n (a++b)=add (add n a) b:=by
 induction a generalizing n with
 |nil=>rfl
 |cons c l C=>exact C (byte n c)
theorem mj3 (k:Nat) (n:BitVec 32):steps (k+1) n=step (steps k n):=by
 induction k generalizing n with
 |zero=>rfl
 |succ k C=>exact C (step n)
def four (n:BitVec 32):List UInt8:=[UInt8.ofNat n.toNat,UInt8.ofNat (n.toNat / 256),UInt8.ofNat (n.toNat / 65536),UInt8.ofNat (n.toNat / 16777216)]
def pz (l:List UInt8):List UInt8:=l++four (sum l)
end Crc
namespace Fnv
def basis:BitVec 64:=14695981039346656037#64
def prime:BitVec 64:=1099511628211#64
def byte (h:BitVec 64) (c:UInt8):BitVec 64:=(h ^^^ BitVec.ofNat 64 c.toNat)*prime
def go (h:BitVec 64):List UInt8->BitVec 64
 |[]=>h
 |c::l=>go (byte h c) l
def hash (l:List UInt8):BitVec 64:=go basis l
theorem tq4 (h:BitVec 64) (a b:List UInt8):go h (a++b)=go (go h a) b:=by
 induction a generalizing h with
 |nil=>rfl
 |cons c l C=>exact C (byte h c)
theorem wx5 (h:BitVec 64) (l:List UInt8) (k:Nat) (C:k < l.length):go h (l.take (k+1))=byte (go h (l.take k)) l[k]:=by
 rw[r_ C,tq4];rfl
end Fnv
theorem yj2 (x:BitVec 32):bits .xor .u32 ((x.toNat:Int) / 2) (bits .and .u32 2197175160 (-bits .and .u32 (x.toNat:Int) 1 % 4294967296))=((Crc.step x).toNat:Int):=by
 have h1:bits .and .u32 (x.toNat:Int) 1=((x&&&1#32).toNat:Int):=qy2 x 1#32;have h2:-((x&&&1#32).toNat:Int) % 4294967296=((-(x&&&1#32)).toNat:Int):=by
  rw[BitVec.toNat_neg];have:=(x&&&1#32).isLt;omega
 have h3:((x.toNat:Int) / (2:Int))=((x >>> 1).toNat:Int):=by
  rw[BitVec.toNat_ushiftRight,Nat.shiftRight_eq_div_pow];omega
 have h4:bits .and .u32 2197175160 ((-(x&&&1#32)).toNat:Int)=((Crc.poly&&&-(x&&&1#32)).toNat:Int):=qy2 Crc.poly _;rw[h1,h2,h3,h4,yz1];rfl
theorem cy3 (x:BitVec 32):bits .xor .u32 IntKind.u32.max (x.toNat:Int)=((~~~x).toNat:Int):=by
 have h:bits .xor .u32 IntKind.u32.max (x.toNat:Int)=((BitVec.allOnes 32 ^^^ x).toNat:Int):=yz1 (BitVec.allOnes 32) x;rw[h,BitVec.allOnes_xor]
theorem ck3 (m:BitVec 32) (l:List UInt8) (k:Nat) (C:k < l.length):Crc.add m (l.take (k+1))=Crc.byte (Crc.add m (l.take k)) l[k]:=by
 rw[r_ C,Crc.rz2];rfl
theorem add_any (m:BitVec 32) (A:Option Addr) (n c:Nat) (l:List UInt8) (w:World) (Z:n<=9223372036854775807) (E:Row w.heap.size w A n 1 (bts l)):
  Calls Tryz.prog 328 #[.int .u32 (m.toNat:Int),.slice A n c] w fun e w'=>e=.returned (.int .u32 ((Crc.add m l).toNat:Int))/\w=w':=by
 go_enter Tryz.func328,Tryz.ntmps328;go_wp2
 go_loop [0,9,6] (fun x i _=>∃k:Nat,k<=n/\i=.int .i64 k/\x=.int .u32 ((Crc.add m (l.take k)).toNat:Int)) (fun _ i _=>n - (intOf i).toNat)
 case atStart=>exact⟨0,w_ _,rfl,rfl⟩
 case round=>
  obtain⟨k,hk,rfl,rfl⟩:=hrel
  by_cases C:k < n
  ·obtain⟨a,J,rfl,_,hc⟩:=E.bt C
   go_wp2
   go_loop [0,17] (fun x i=>∃j:Nat,j<=8/\i=.int .i64 j/\x=.int .u32 ((Crc.steps j (Crc.add m (l.take k) ^^^ BitVec.ofNat 32 l[k].toNat)).toNat:Int)) (fun _ i=>8 - (intOf i).toNat)
   case atStart=>exact⟨0,w_ _,rfl,int_eq (by rw[by6,yz1];rfl)⟩
   case round=>
    obtain⟨j,hj,rfl,rfl⟩:=hrel;generalize H:Crc.steps j (Crc.add m (l.take k) ^^^ BitVec.ofNat 32 l[k].toNat)=x;have I:=H_ H;clear H;have O:0<=(x.toNat:Int):=o_
    have Q:(x.toNat:Int)<=4294967295:=by have:=x.isLt;omega
    by_cases U:j < 8
    ·go_wp2
     go_round
     case rel=>exact⟨j+1,o_,by go_num,int_eq (by rw[yj2,Crc.mj3,I.out])⟩
     case measure=>simp[intOf];omega
    ·go_wp2
     go_round
     case rel=>exact⟨k+1,o_,by go_num,int_eq (by
      obtain rfl:j=8:=o_
      rw[ck3 m l k J,Crc.byte,I.out])⟩
     case measure=>simp[intOf];omega
  ·go_wp2
   go_ret;exact⟨mq1 (int_eq (by rw[g_ (by have:=E.zk;omega)])),rfl⟩
def uw2 (B:Nat) (w:World) (P:Option Addr) (n:Nat) (ls:List (List UInt8)):Prop:=
 ∃vs,Row B w P n 1 vs/\ls.length=n/\∀i (h:i < ls.length),∃A k c,vs[i]?=some (.slice A k c)/\k<=c/\c<=maxLen/\Row B w A k 1 (bts ls[i])
theorem uw2.at_ {B:Nat} {w:World} {P:Option Addr} {n:Nat} {ls:List (List UInt8)} (h:uw2 B w P n ls) {i:Nat} (hi:i < n):
  ∃a A k c,∃E:i < ls.length,P=some a/\a.block < B/\w.cell? (a.add i)=some (.slice A k c)/\k<=c/\c<=maxLen/\Row B w A k 1 (bts ls[i]):=by
 obtain⟨vs,H,E,I⟩:=h;obtain⟨a,v,e,b,C,J⟩:=H.at1 hi;obtain⟨A,k,c,h1,h2,h3,h4⟩:=I i o_;rw[h1]at C;injection C with C;exact⟨a,A,k,c,o_,e,b,by rw[J,<-C],h2,h3,h4⟩
theorem uw2.below {B:Nat} {w w':World} {P:Option Addr} {n:Nat} {ls:List (List UInt8)} (h:uw2 B w P n ls) (C:Below B w w'):uw2 B w' P n ls:=by
 obtain⟨vs,E,H,I⟩:=h;exact⟨vs,E.below C,H,fun i hi=>let ⟨A,k,c,h1,h2,h3,h4⟩:=I i hi;⟨A,k,c,h1,h2,h3,h4.below C⟩⟩
def ow1 (m:BitVec 32):List (List UInt8)->BitVec 32
 |[]=>m
 |l::ls=>ow1 (Crc.add m l) ls
theorem yz2 (m:BitVec 32) (a b:List (List UInt8)):ow1 m (a++b)=ow1 (ow1 m a) b:=by
 induction a generalizing m with
 |nil=>rfl
 |cons x l C=>exact C _
theorem nk3 (m:BitVec 32) (ls:List (List UInt8)) (k:Nat) (C:k < ls.length):ow1 m (ls.take (k+1))=Crc.add (ow1 m (ls.take k)) ls[k]:=by
 rw[r_ C,yz2];rfl
theorem px3 (m:BitVec 32) (ls:List (List UInt8)):ow1 m ls=Crc.add m ls.flatten:=by
 induction ls generalizing m with
 |nil=>rfl
 |cons x l C=>rw[bB_,Crc.rz2];exact C _
theorem kk4 (P:Option Addr) (n c:Nat) (ls:List (List UInt8)) (w:World) (hn:n<=9223372036854775807) (I:uw2 w.heap.size w P n ls):
  Calls Tryz.prog 304 #[.slice P n c] w fun e w'=>e=.returned (.int .u32 ((Crc.sum ls.flatten).toNat:Int))/\w=w':=by
 go_enter Tryz.func304,Tryz.ntmps304;go_wp2
 go_loop [3,8,5] (fun x i _=>∃k:Nat,k<=n/\i=.int .i64 k/\x=.int .u32 ((ow1 Crc.ones (ls.take k)).toNat:Int)) (fun _ i _=>n - (intOf i).toNat)
 case atStart=>exact⟨0,w_ _,rfl,rfl⟩
 case round=>
  obtain⟨k,hk,rfl,rfl⟩:=hrel
  by_cases C:k < n
  ·obtain⟨a,A,k',c',O,rfl,_,hc,Q,E,H⟩:=I.at_ C
   unfold maxLen at E;go_wp2_with (go_at_call 328;refine(add_any _ _ _ _ _ _ o_ H).mono ?_;rintro e w' ⟨rfl,rfl⟩)
   go_round
   case rel=>exact⟨k+1,o_,by go_num,int_eq (by rw[nk3 _ _ _ O])⟩
   case measure=>simp[intOf];omega
  ·have U:0<=((ow1 Crc.ones (ls.take k)).toNat:Int):=o_
   have Z:((ow1 Crc.ones (ls.take k)).toNat:Int)<=4294967295:=by have:=(ow1 Crc.ones (ls.take k)).isLt;omega
   go_wp2;go_ret;have J:ls.length=n:=by obtain⟨_,_,h,_⟩:=I;exact h
   refine⟨mq1 (int_eq ?_),rfl⟩;rw[g_ o_,px3,cy3];rfl
theorem qy5 (w:World) (e:TypeId) (A:Option Addr) (n c:Nat) (l:List UInt8) (C:Row w.heap.size w A n 1 (bts l)) (E:n<=c) (H:c<=maxLen):
  uw2 (w.alloc (.cells #[.slice A n c] e)).heap.size (w.alloc (.cells #[.slice A n c] e)) (some ⟨w.heap.size,0,none⟩) 1 [l]:=by
 refine⟨_,(Row.new w #[.slice A n c] e (n:=1) (size:=1) rfl).up s_,rfl,fun i hi=>?_⟩;obtain rfl:i=0:=by simpa using hi
 exact⟨A,n,c,rfl,E,H,(C.alloc l_ _).up s_⟩
theorem cz6 (A:Option Addr) (n c:Nat) (l:List UInt8) (w:World) (C:n<=c) (E:c<=maxLen) (H:Row w.heap.size w A n 1 (bts l)):
  Calls Tryz.prog 269 #[.slice A n c] w fun e w'=>e=.returned (.int .u32 ((Crc.sum l).toNat:Int))/\Below w.heap.size w w':=by
 have I:=qy5 w 150 A n c l H C E;go_enter Tryz.func269,Tryz.ntmps269;go_wp2_with (go_at_call 304;refine(kk4 _ _ _ _ _ o_ I).mono ?_;rintro e w' ⟨rfl,rfl⟩);go_ret;refine⟨mq1 (int_eq s_),b_ _ _⟩
structure Chg (F:List Nat) (w w':World):Prop where
 os:w'.os=w.os
 tape:w'.tape=w.tape
 output:w'.output=w.output
 size:w.heap.size<=w'.heap.size
 block:∀k,k < w.heap.size->k∉F->w'.heap[k]?=w.heap[k]?
variable {F G:List Nat} {w w' w'':World}
theorem Chg.refl (F:List Nat) (w:World):Chg F w w:=⟨rfl,rfl,rfl,y_ _,fun _ _ _=>rfl⟩
theorem Chg.trans (h:Chg F w w') (k:Chg G w' w'') (E:∀g∈G,g∈F\/w.heap.size<=g):Chg F w w'':=
 ⟨k.os.trans h.os,k.tape.trans h.tape,k.output.trans h.output,j_ h.size k.size,fun b C hF=>(k.block b (N_ C h.size) (fun H=>by
  rcases E b H with h1|h1
  ·exact hF h1
  ·omega)).trans (h.block b C hF)⟩
theorem Chg.mono (h:Chg F w w') (hF:∀g∈F,g∈G\/w.heap.size<=g):Chg G w w':=
 ⟨h.os,h.tape,h.output,h.size,fun b C E=>h.block b C (fun H=>by
  rcases hF b H with h1|h1
  ·exact E h1
  ·omega)⟩
theorem Chg.of_below (h:Below w.heap.size w w') (F:List Nat):Chg F w w':=⟨h.os,h.tape,h.output,h.size,fun b C _=>h.block b C⟩
theorem Chg.below (h:Chg F w w') {B:Nat} (C:B<=w.heap.size) (hF:∀g∈F,B<=g):Below B w w':=⟨h.os,h.tape,h.output,h.size,fun b E=>h.block b (N_ E C) (fun H=>by have:=hF b H;omega)⟩
theorem Chg.qy {g:Option Nat} (h:w.grownBy w' g) (C:∀b,g=some b->b∈F):Chg F w w':=⟨h.os,h.tape,h.output,h.size,fun b E hF=>h.block b E (fun e=>hF (C b e.symm))⟩
theorem Chg.drew (h:Chg F w w'):Chg F w w'.drew:=⟨h.os,h.tape,h.output,h.size,h.block⟩
theorem Chg.cell (h:Chg F w w') {p:Addr} (C:p.block < w.heap.size) (hF:p.block∉F):w'.cell? p=w.cell? p:=aH_ (h.block p.block C hF)
theorem Chg.row {B n size:Nat} {A:Option Addr} {xs:List Value} (h:Chg F w w') (r:Row B w A n size xs) (C:B<=w.heap.size) (hF:∀a,A=some a->a.block∉F):Row B w' A n size xs:=
 ⟨r.len,fun j hj=>let ⟨a,e,b,c⟩:=r.cell j hj;⟨a,e,b,(h.cell (p:=a.add j) (by rw[add_block];omega) (by rw[add_block];exact hF a e)).trans c⟩⟩
theorem az {w X C:World} (h:Below w.heap.size w X) (h1:Below X.heap.size X C):Below w.heap.size w C:=h.trans (h1.mono h.size)
theorem ak {B:Nat} {w X:World} (h:Below B w X):Below B w X.drew:=⟨h.os,h.tape,h.output,h.size,h.block⟩
theorem Chg.alloc (h:Chg F w w') (o:Obj):Chg F w (w'.alloc o):=
 h.trans (Chg.of_below (b_ _ o) []) (fun g C=>by cases C)
theorem Chg.setCell (h:Chg F w w') {p:Addr} (v:Value) (C:p.block∈F\/w.heap.size<=p.block):Chg F w (w'.setCell p v):=
 ⟨h.os,h.tape,h.output,by simpa using h.size,fun k E hF=>by
  have e:(w'.setCell p v).heap[k]?=w'.heap[k]?:=by
   refine Below.heap_setCell w' p v k (fun e=>?_);subst e
   rcases C with C|C
   ·exact hF C
   ·omega
  rw[e];exact h.block k E hF⟩
end
section
namespace Pn
def putF:Nat->Nat->List UInt8
 |0,n=>[UInt8.ofNat n]
 |k+1,n=>if n < 128 then [UInt8.ofNat n] else UInt8.ofNat (n % 128+128)::putF k (n / 128)
def put (n:Nat):List UInt8:=putF 9 n
def takeF:Nat->Nat->List UInt8->Nat×Nat×Nat
 |_,_,[]=>(0,0,4)
 |i,acc,c::r=>if (i=9/\1 < c.toNat)\/(0 < i/\c.toNat=0) then (0,0,3) else if c.toNat < 128 then (acc+c.toNat *2 ^ (7 *i),i+1,0) else takeF (i+1) (acc+(c.toNat - 128)*2 ^ (7 *i)) r
def take (l:List UInt8):Nat×Nat×Nat:=takeF 0 0 l
def list (l:List Nat):List UInt8:=put l.length++l.flatMap put
theorem sx3:∀k n,1<=(putF k n).length/\(putF k n).length<=k+1
 |0,_=>by simp[putF]
 |k+1,n=>by
  have:=sx3 k (n / 128);unfold putF;split<;>simp<;>omega
theorem jq (n:Nat):1<=(put n).length/\(put n).length<=10:=sx3 9 n
theorem pow7 (i:Nat):2 ^ (7 *(i+1))=128 *2 ^ (7 *i):=by
 rw[show 7 *(i+1)=7 *i+7 from by omega,cA_];omega
theorem yx2 (n:Nat) (h:n < 256):(UInt8.ofNat n).toNat=n:=by
 rw[UInt8.toNat_ofNat'];omega
theorem ov2:∀(k i acc n:Nat) (r:List UInt8),i+k=9->(0 < i->0 < n)->n < 2 ^ (64 - 7 *i)->takeF i acc (putF k n++r)=(acc+n *2 ^ (7 *i),i+(putF k n).length,0)
 |0,i,acc,n,r,hi,C,E=>by
  obtain rfl:i=9:=o_
  have h2:n < 2:=by simpa using E
  have:=C o_;have e:(UInt8.ofNat n).toNat=n:=yx2 n o_;simp only[putF,T_,C_,takeF,e];rw[if_neg o_,if_pos o_];simp
 |k+1,i,acc,n,r,hi,C,E=>by
  unfold putF;split
  ·rename_i H
   have e:(UInt8.ofNat n).toNat=n:=yx2 n o_;simp only[T_,C_,takeF,e];rw[if_neg o_,if_pos o_];simp
  ·rename_i H
   have e:(UInt8.ofNat (n % 128+128)).toNat=n % 128+128:=yx2 _ o_;simp only[T_,takeF,e];rw[if_neg o_,if_neg o_];have h1:n / 128 < 2 ^ (64 - 7 *(i+1)):=by
    rw[Nat.div_lt_iff_lt_mul (by decide)];have:2 ^ (64 - 7 *(i+1))*128=2 ^ (64 - 7 *i):=by
     rw[show (128:Nat)=2 ^ 7 from rfl,<-cA_]
     congr 1
     omega
    omega
   rw[ov2 k (i+1) _ (n / 128) r o_ o_ h1,pow7]
   congr 1
   ·have:n=128 *(n / 128)+n % 128:=(Nat.div_add_mod n 128).symm
    have I:n *2 ^ (7 *i)=n / 128 *(128 *2 ^ (7 *i))+(n % 128)*2 ^ (7 *i):=by
     conv=>lhs;rw[this]
     rw[bu_,Nat.mul_comm 128 (n / 128),Nat.mul_assoc]
    rw[I];have J:n % 128+128 - 128=n % 128:=o_
    rw[J];omega
   ·simp only[q_]
    congr 1
    omega
theorem jv1 (n:Nat) (r:List UInt8) (C:n < 2 ^ 64):take (put n++r)=(n,(put n).length,0):=by
 have:=ov2 9 0 0 n r rfl o_ (by simpa using C);simpa [take,put] using this
end Pn
theorem fj1:(Tryz.prog.info? 5).map (fun i=>(i.zero,i.size,i.bytes))=some (some (.int .u8 0),1,1):=by kernel_rfl
theorem yv3 (x:BitVec 32):bts (Crc.four x)=[.int .u8 ((x.toNat:Int) % 256),.int .u8 ((x.toNat:Int) / 256 % 256),.int .u8 ((x.toNat:Int) / 65536 % 256),.int .u8 ((x.toNat:Int) / 16777216)]:=by
 have:=x.isLt;have h4:x.toNat / 16777216 % 256=x.toNat / 16777216:=aB_ o_;simp[bts,Crc.four,h4]
theorem cz2 (A:Option Addr) (n c:Nat) (l:List UInt8) (w:World) (hn:n<=c) (hm:c<=maxLen) (a5:n<=1073741824) (hr:Row w.heap.size w A n 1 (bts l)):
  Calls Tryz.prog 230 #[.slice A n c] w fun e w'=>∃A' c',e=.returned (.slice A' (n+4) c')/\w'.ownsRow w.heap.size 5 1 (.slice A' (n+4) c') (n+4) (bts (Crc.pz l))/\n+4<=c'/\c'<=maxLen/\Below w.heap.size w w':=by
 obtain⟨i0,J,O,Q,U⟩:=info_parts fj1;go_enter Tryz.func230,Tryz.ntmps230;go_wp2_with fail;refine(cz6 A n c l w hn hm hr).mono ?_;rintro e w1 ⟨rfl,C⟩;generalize hx:Crc.sum l=x;have HX:=H_ hx;clear hx;have b1:0<=(x.toNat:Int):=o_
 have b2:(x.toNat:Int)<=4294967295:=by have:=x.isLt;omega
 go_wp2_with (at_builtin;refine iy ?_);refine bz (vw rfl (.const (.slice none 0 0)) (.tmp 6) _ rfl w.heap.size 5 i0 _ 1 1 Tryz.underlying150 J O Q U rfl o_ w C C.size rfl w.heap.size A n c (bts l) rfl (hr.below C) (av1 l) (by unfold maxLen;omega) o_ ?_);intro A2 c2 Z E H b3 b5 b6;go_wp2_with (at_builtin;refine iy ?_);have hrow:Row (Z.heap.size+1) (Z.alloc (.cells #[.int .u8 ((x.toNat:Int) % 256),.int .u8 ((x.toNat:Int) / 256 % 256),.int .u8 ((x.toNat:Int) / 65536 % 256),.int .u8 ((x.toNat:Int) / 16777216)] 5)) (some ⟨Z.heap.size,0,none⟩) 4 1 (bts (Crc.four x)):=by
  rw[yv3];exact Row.new Z _ _ rfl
 refine bz (iq rfl (.tmp 7) (.tmp 19) _ rfl w.heap.size 5 i0 _ 1 1 Tryz.underlying150 J O Q U rfl o_ w (H.alloc H.size _) (by have:=H.size;simp;omega) (.slice A2 n c2) n (bts l) rfl (E.alloc _) (Z.heap.size+1) _ 4 4 (bts (Crc.four x)) rfl hrow (av1 _) (n+4) (bts (l++Crc.four x)) rfl (xq1 _ _).symm (by unfold maxLen;omega) o_ ?_);intro A3 c3 w3 I a1 _ a2 a4;go_wp2;go_ret;exact⟨A3,c3,rfl,by rw[Crc.pz,HX.out];exact I,a2,a4,a1⟩
theorem ax6 (x:Nat):bits .or .u8 ((x:Int) % 256) 128=((UInt8.ofNat (x % 128+128)).toNat:Int):=by
 have key:∀y:Fin 256,bits .or .u8 ((y.val:Nat):Int) 128=((y.val % 128+128:Nat):Int):=by decide+kernel
 have h:=key ⟨x % 256,bP_ _ (by decide)⟩;simp only at h;rw[show ((x:Int) % 256)=((x % 256:Nat):Int) from by omega,h,UInt8.toNat_ofNat'];omega
theorem fz2 (x:Nat):(x:Int) % 256=((UInt8.ofNat x).toNat:Int):=by
 rw[UInt8.toNat_ofNat'];omega
theorem jj3 (w:World) (e:TypeId) (c:UInt8):Row (w.heap.size+1) (w.alloc (.cells #[.int .u8 (c.toNat:Int)] e)) (some ⟨w.heap.size,0,none⟩) 1 1 (bts [c]):=by
 have:=Row.new w #[.int .u8 (c.toNat:Int)] e (n:=1) (size:=1) rfl;simpa [bts] using this
theorem put_any (A:Option Addr) (N c:Nat) (l:List UInt8) (n:Nat) (hn:n < 18446744073709551616) (w:World) (hN:N<=1073741824) (hr:Row w.heap.size w A N 1 (bts l)):
  Calls Tryz.prog 198 #[.slice A N c,.int .u64 (n:Int)] w fun e w'=>∃A' J,e=.returned (.slice A' (N+(Pn.put n).length) J)/\
   w'.ownsRow w.heap.size 5 1 (.slice A' (N+(Pn.put n).length) J) (N+(Pn.put n).length) (bts (l++Pn.put n))/\N+(Pn.put n).length<=J/\J<=maxLen/\Below w.heap.size w w':=by
 obtain⟨i0,U,Z,a0,a1⟩:=info_parts fj1;go_enter Tryz.func198,Tryz.ntmps198;go_wp2_with (at_builtin;refine iy ?_);refine bz (vw rfl (.const (.slice none 0 0)) (.tmp 6) _ rfl w.heap.size 5 i0 _ 1 1 Tryz.underlying150 U Z a0 a1 rfl o_ w b0_ l_ rfl w.heap.size A N c (bts l) rfl hr (av1 l) (by unfold maxLen;omega) o_ ?_);intro A2 c2 w2 a2 b0 d0 b1 b2;go_wp2
 go_loopw [5,1] (fun o m wr=>∃(k n':Nat) (pre:List UInt8) (A':Option Addr) (J:Nat),o=.slice A' (N+k) J/\m=.int .u64 (n':Int)/\wr.ownsRow w.heap.size 5 1 (.slice A' (N+k) J) (N+k) (bts (l++pre))/\N+k<=J/\J<=maxLen/\
  pre++Pn.putF (9 - k) n'=Pn.put n/\k<=9/\n' < 2 ^ (64 - 7 *k)/\Below w.heap.size w wr) (fun _ m _=>(intOf m).toNat)
 case atStart=>exact⟨0,n,[],A2,c2,rfl,rfl,by simpa using a2,b1,b2,rfl,o_,by simpa using hn,b0⟩
 case round=>
  obtain⟨k,n',pre,A',J,rfl,rfl,H,d1,d2,hp,hk,hl,hb⟩:=hrel;have O:pre.length=k:=by
   have h1:=H.1;rw[rq,d_]at h1;have h2:=hr.zk;omega
  have HP:=H_ hp;have HL:=H_ hl;have b3:=H_ O;have d4:n' < 18446744073709551616:=by
   refine N_ hl ?_;exact bG_ (n:=2) (by decide) (show 64 - 7 *k<=64 by omega)
  clear hp hl O
  by_cases b':128<=n'
  ·have b5:((n':Int) < 128)=False:=by simp;omega
   have d5:((128:Int)<=(n':Int)):=o_
   go_wp2_with (at_builtin;refine iy ?_);have C:Row (wr.heap.size+1) (wr.alloc (.cells #[.int .u8 ((UInt8.ofNat (n' % 128+128)).toNat:Int)] 5)) (some ⟨wr.heap.size,0,none⟩) 1 1 (bts [UInt8.ofNat (n' % 128+128)]):=jj3 _ _ _;rw[<-ax6]at C;refine bz (iq rfl (.tmp 12) (.tmp 16) _ rfl w.heap.size 5 i0 _ 1 1 Tryz.underlying150 U Z a0 a1 rfl o_ w (hb.alloc hb.size _) (j_ hb.size s_) _ (N+k) (bts (l++pre)) rfl (H.alloc _) (wr.heap.size+1) _ 1 1 (bts [UInt8.ofNat (n' % 128+128)]) rfl C (av1 _) (N+(k+1)) (bts (l++(pre++[UInt8.ofNat (n' % 128+128)]))) o_ (by simp[bts]) (by unfold maxLen;omega) o_ ?_);intro A3 c3 w3 E a4 _ a5 a6;go_wp2;go_roundw
   case rel=>
    have hp:pre++Pn.putF (9 - k) n'=Pn.put n:=HP;have hl:n' < 2 ^ (64 - 7 *k):=HL;have d7:k≠9:=by
     rintro rfl;omega
    refine⟨k+1,n' / 128,pre++[UInt8.ofNat (n' % 128+128)],A3,c3,rfl,?_,E,a5,a6,?_,o_,?_,a4⟩
    ·go_num
    ·rw[<-hp,show 9 - k=(9 - (k+1))+1 from by omega,Pn.putF,if_neg o_]
     simp
    ·rw[Nat.div_lt_iff_lt_mul (by decide),show (128:Nat)=2 ^ 7 from rfl,<-cA_,show 64 - 7 *(k+1)+7=64 - 7 *k from by omega]
     exact hl
   case measure=>simp[intOf];omega
  ·have b5:((128:Int)<=(n':Int))=False:=by simp;omega
   go_wp2_with (at_builtin;refine iy ?_);have C:Row (wr.heap.size+1) (wr.alloc (.cells #[.int .u8 ((UInt8.ofNat n').toNat:Int)] 5)) (some ⟨wr.heap.size,0,none⟩) 1 1 (bts [UInt8.ofNat n']):=jj3 _ _ _;rw[show ((UInt8.ofNat n').toNat:Int)=(n':Int) from by rw[<-fz2];omega]at C;have I:pre++[UInt8.ofNat n']=Pn.put n:=by
    have hp:pre++Pn.putF (9 - k) n'=Pn.put n:=HP;rw[<-hp]
    cases h9:9 - k with
    |zero=>rfl
    |succ j=>rw[Pn.putF,if_pos o_]
   have Q:k+1=(Pn.put n).length:=by
    have O:pre.length=k:=b3;rw[<-I];simp[O]
   have HF:=H_ I;have b7:=H_ Q;clear I Q;refine bz (iq rfl (.tmp 18) (.tmp 21) _ rfl w.heap.size 5 i0 _ 1 1 Tryz.underlying150 U Z a0 a1 rfl o_ w (hb.alloc hb.size _) (j_ hb.size s_) _ (N+k) (bts (l++pre)) rfl (H.alloc _) (wr.heap.size+1) _ 1 1 (bts [UInt8.ofNat n']) rfl C (av1 _) (N+(Pn.put n).length) (bts (l++Pn.put n)) (by have h:k+1=(Pn.put n).length:=b7;omega) (by have h:pre++[UInt8.ofNat n']=Pn.put n:=HF;rw[<-h];simp[bts]) (by have:=(Pn.jq n).2;unfold maxLen;omega) (by have:=(Pn.jq n).2;omega) ?_);intro A3 c3 w3 E a4 _ a5 a6;go_wp2;go_ret;exact⟨A3,c3,rfl,E,a5,a6,a4⟩
theorem wj5 (x:UInt8):bits .and .u8 (x.toNat:Int) 127=((x.toNat % 128:Nat):Int):=by
 have key:∀y:Fin 256,bits .and .u8 ((y.val:Nat):Int) 127=((y.val % 128:Nat):Int):=by decide+kernel
 exact key ⟨x.toNat,x.toNat_lt⟩
theorem oj2 (y:Nat) (h:y < 18446744073709551616):IntKind.u64.wrap (y:Int)=(y:Int):=by
 rw[IntKind.wrap_u64];omega
theorem ay6 (acc m k:Nat) (H:acc < 2 ^ k) (E:m *2 ^ k < 18446744073709551616) (C:acc < 18446744073709551616):bits .or .u64 (acc:Int) ((m *2 ^ k:Nat):Int)=((acc+m *2 ^ k:Nat):Int):=by
 have h1:((BitVec.ofNat 64 acc).toNat:Int)=(acc:Int):=by rw[BitVec.toNat_ofNat,aB_ C]
 have h2:((BitVec.ofNat 64 (m *2 ^ k)).toNat:Int)=((m *2 ^ k:Nat):Int):=by rw[BitVec.toNat_ofNat,aB_ E]
 rw[<-h1,<-h2,xq4,BitVec.toNat_or,BitVec.toNat_ofNat,BitVec.toNat_ofNat,aB_ C,aB_ E]
 congr 1
 rw[Nat.or_comm,Nat.mul_comm,<-cd_ H];omega
theorem ak6 (acc:Nat) (x:UInt8) (k:Nat) (J:k<=9) (H:k=9->x.toNat<=1) (I:acc < 2 ^ (7 *k)):
  bits .or .u64 (acc:Int) (IntKind.u64.wrap (IntKind.u64.wrap (bits .and .u8 (x.toNat:Int) 127)*2 ^ (7 *k)))=((acc+x.toNat % 128 *2 ^ (7 *k):Nat):Int)/\acc+x.toNat % 128 *2 ^ (7 *k) < 2 ^ (7 *(k+1)):=by
 have O:x.toNat % 128 < 128:=bP_ _ (by decide);have Q:2 ^ (7 *k)<=2 ^ 63:=bG_ (by decide) o_;have E:x.toNat % 128 *2 ^ (7 *k) < 18446744073709551616:=by
  by_cases e:k=9
  ·subst e
   have:=H rfl;omega
  ·have C:2 ^ (7 *k)<=2 ^ 56:=bG_ (by decide) o_
   have:x.toNat % 128 *2 ^ (7 *k)<=127 *2 ^ 56:=Nat.mul_le_mul o_ C;omega
 constructor
 ·rw[wj5,oj2 _ o_]
  have e:((x.toNat % 128:Nat):Int)*2 ^ (7 *k)=((x.toNat % 128 *2 ^ (7 *k):Nat):Int):=by push_cast;rfl
  rw[e,oj2 _ E,ay6 _ _ _ I E o_]
 ·rw[Pn.pow7]
  have:x.toNat % 128 *2 ^ (7 *k)<=127 *2 ^ (7 *k):=aU_ _ o_;omega
theorem take_any (A:Option Addr) (N c:Nat) (l:List UInt8) (w:World) (hN:N<=1073741824) (hr:Row w.heap.size w A N 1 (bts l)):
  Calls Tryz.prog 114 #[.slice A N c] w fun e w'=>e=.returned (.tuple #[.int .u64 ((Pn.take l).1:Int),.int .i64 ((Pn.take l).2.1:Int),.int .i64 ((Pn.take l).2.2:Int)])/\w=w':=by
 have b0:=hr.zk;go_enter Tryz.func114,Tryz.ntmps114;go_wp2
 go_loop [2,9] (fun x i=>∃(k acc:Nat),k<=N/\k<=9/\acc < 2 ^ (7 *k)/\x=.int .u64 (acc:Int)/\i=.int .i64 (k:Int)/\Hid (Pn.take l=Pn.takeF k acc (l.drop k))) (fun _ i=>N - (intOf i).toNat)
 case atStart=>exact⟨0,0,w_ _,w_ _,by decide,rfl,rfl,H_ (by rfl)⟩
 case round=>
  obtain⟨k,acc,hk,a4,I,rfl,rfl,hh⟩:=hrel
  by_cases a6:k < N
  ·obtain⟨a,hl,rfl,_,hc⟩:=hr.bt a6
   have H:Pn.take l=Pn.takeF k acc (l[k]::l.drop (k+1)):=by
    have h:Pn.take l=Pn.takeF k acc (l.drop k):=hh;rw[h,bn_ hl]
   generalize l[k]=x at *;have HS:=H_ H;have HA:=H_ I;clear hh H I;have hx:x.toNat < 256:=x.toNat_lt
   by_cases b1:(k=9/\1 < x.toNat)\/(0 < k/\x.toNat=0)
   ·have E:Pn.take l=(0,0,3):=by
     have h:Pn.take l=Pn.takeF k acc (x::l.drop (k+1)):=HS;rw[h,Pn.takeF,if_pos b1]
    have HR:=H_ E;clear E;have fin:Ending.returned (Value.tuple #[Value.int IntKind.u64 0,Value.int IntKind.i64 0,Value.int IntKind.i64 3])=.returned (.tuple #[.int .u64 ((Pn.take l).1:Int),.int .i64 ((Pn.take l).2.1:Int),.int .i64 ((Pn.take l).2.2:Int)]):=by
     have h:Pn.take l=(0,0,3):=HR;rw[h];rfl
    have C:=H_ fin;clear fin
    rcases b1 with ⟨b1,b2⟩|⟨b1,b2⟩
    ·subst b1
     have Q:w.cell? { block:=a.block,off:=a.off+9 }=some (.int .u8 (x.toNat:Int)):=by simpa [Addr.add] using hc
     have c2:((1:Int) < (x.toNat:Int)):=o_
     go_wp2;exact bodyPost_ret (v:=.tuple #[.int .u64 0,.int .i64 0,.int .i64 3]) (by simp[results,go_sem]) rfl ⟨C,rfl⟩
    ·by_cases U:k=9
     ·subst U
      have Q:w.cell? { block:=a.block,off:=a.off+9 }=some (.int .u8 (x.toNat:Int)):=by simpa [Addr.add] using hc
      have c2:((1:Int) < (x.toNat:Int))=False:=by simp;omega
      have c4:((x.toNat:Int)==0)=true:=by simp;omega
      go_wp2;exact bodyPost_ret (v:=.tuple #[.int .u64 0,.int .i64 0,.int .i64 3]) (by simp[results,go_sem]) rfl ⟨C,rfl⟩
     ·have c1:((k:Int)==9)=false:=by simp;omega
      have c3:((0:Int) < (k:Int)):=o_
      have c4:((x.toNat:Int)==0)=true:=by simp;omega
      go_wp2;exact bodyPost_ret (v:=.tuple #[.int .u64 0,.int .i64 0,.int .i64 3]) (by simp[results,go_sem]) rfl ⟨C,rfl⟩
   ·obtain⟨Z,J⟩:=ak6 acc x k a4 (fun e=>o_) HA
    generalize O:acc+x.toNat % 128 *2 ^ (7 *k)=R at Z J;have a0:=H_ J;have HR:=H_ O;clear J O
    by_cases U:x.toNat < 128
    ·have c5:((x.toNat:Int) < 128):=o_
     have E:Pn.take l=(R,k+1,0):=by
      have O:acc+x.toNat % 128 *2 ^ (7 *k)=R:=HR;have h:Pn.take l=Pn.takeF k acc (x::l.drop (k+1)):=HS;rw[h,Pn.takeF,if_neg b1,if_pos U,<-O,aB_ U]
     have fin:Ending.returned (Value.tuple #[Value.int IntKind.u64 ((R:Nat):Int),Value.int IntKind.i64 ((k:Int)+1),Value.int IntKind.i64 0])=.returned (.tuple #[.int .u64 ((Pn.take l).1:Int),.int .i64 ((Pn.take l).2.1:Int),.int .i64 ((Pn.take l).2.2:Int)]):=by
      rw[E];rfl
     have C:=H_ fin;clear fin E
     by_cases d1:k=9
     ·subst d1
      have Q:w.cell? { block:=a.block,off:=a.off+9 }=some (.int .u8 (x.toNat:Int)):=by simpa [Addr.add] using hc
      have b7:bits .or .u64 (acc:Int) (IntKind.u64.wrap (IntKind.u64.wrap (bits .and .u8 (x.toNat:Int) 127)*9223372036854775808))=(R:Int):=Z;have c2:((1:Int) < (x.toNat:Int))=False:=by simp;omega
      have c4:((x.toNat:Int)==0)=false:=by simp;omega
      go_wp2;refine bodyPost_ret (v:=.tuple #[.int .u64 ((R:Nat):Int),.int .i64 10,.int .i64 0]) (by simp[results,go_sem]) rfl ⟨C,rfl⟩
     ·have c1:((k:Int)==9)=false:=by simp;omega
      by_cases d2:0 < k
      ·have c3:((0:Int) < (k:Int)):=o_
       have c4:((x.toNat:Int)==0)=false:=by simp;omega
       go_wp2;refine bodyPost_ret (v:=.tuple #[.int .u64 ((R:Nat):Int),.int .i64 ((k:Int)+1),.int .i64 0]) (by simp[results,go_sem]) rfl ⟨C,rfl⟩
      ·have c3:((0:Int) < (k:Int))=False:=by simp;omega
       go_wp2;refine bodyPost_ret (v:=.tuple #[.int .u64 ((R:Nat):Int),.int .i64 ((k:Int)+1),.int .i64 0]) (by simp[results,go_sem]) rfl ⟨C,rfl⟩
    ·have c5:((x.toNat:Int) < 128)=False:=by simp;omega
     have c4:((x.toNat:Int)==0)=false:=by simp;omega
     have d1:k≠9:=o_
     have c1:((k:Int)==9)=false:=by simp;omega
     have a1:Pn.take l=Pn.takeF (k+1) R (l.drop (k+1)):=by
      have O:acc+x.toNat % 128 *2 ^ (7 *k)=R:=HR;have h:Pn.take l=Pn.takeF k acc (x::l.drop (k+1)):=HS;rw[h,Pn.takeF,if_neg b1,if_neg U,<-O,show x.toNat % 128=x.toNat - 128 from by omega]
     have HN:=H_ a1;clear a1
     by_cases d2:0 < k
     ·have c3:((0:Int) < (k:Int)):=o_
      go_wp2
      go_round
      case rel=>exact⟨k+1,R,o_,o_,a0,rfl,by go_num,HN⟩
      case measure=>simp[intOf];omega
     ·have c3:((0:Int) < (k:Int))=False:=by simp;omega
      go_wp2
      go_round
      case rel=>exact⟨k+1,R,o_,o_,a0,rfl,by go_num,HN⟩
      case measure=>simp[intOf];omega
  ·have E:Pn.take l=(0,0,4):=by
    have h:Pn.take l=Pn.takeF k acc (l.drop k):=hh;rw[h,aG_ o_];rfl
   have fin:Ending.returned (Value.tuple #[Value.int IntKind.u64 0,Value.int IntKind.i64 0,Value.int IntKind.i64 4])=.returned (.tuple #[.int .u64 ((Pn.take l).1:Int),.int .i64 ((Pn.take l).2.1:Int),.int .i64 ((Pn.take l).2.2:Int)]):=by
    rw[E];rfl
   have C:=H_ fin;clear fin E;go_wp2;exact bodyPost_ret (v:=.tuple #[.int .u64 0,.int .i64 0,.int .i64 4]) (by simp[results,go_sem]) rfl ⟨C,rfl⟩
namespace Fr
def head (k n:Nat):List UInt8:=[UInt8.ofNat k,UInt8.ofNat (n / 65536),UInt8.ofNat (n / 256),UInt8.ofNat n]
def put (k:Nat) (b:List UInt8):List UInt8:=Crc.pz (head k b.length)++Crc.pz b
def u (l:List UInt8) (i:Nat):Nat:=(l.getD i 0).toNat
def size (l:List UInt8):Nat:=u l 1 *65536+u l 2 *256+u l 3
def take (l:List UInt8) (p:Nat):Nat×List UInt8×Nat×Nat:=
 if l.length - p < 8 then (0,[],0,4)
 else if Crc.pz ((l.drop p).take 4)≠(l.drop p).take 8 then (0,[],0,5)
 else if u (l.drop p) 0 < 1\/100 < u (l.drop p) 0\/60000 < size (l.drop p) then (0,[],0,3)
 else if l.length - p - 8 < size (l.drop p)+4 then (0,[],0,4)
 else if Crc.pz ((l.drop (p+8)).take (size (l.drop p)))≠(l.drop (p+8)).take (size (l.drop p)+4) then (0,[],0,5)
 else (u (l.drop p) 0,(l.drop (p+8)).take (size (l.drop p)),p+8+size (l.drop p)+4,0)
theorem ny3 (x:BitVec 32):(Crc.four x).length=4:=rfl
theorem yw1 (l:List UInt8):(Crc.pz l).length=l.length+4:=by simp[Crc.pz,ny3]
theorem vk (k:Nat) (b:List UInt8):(put k b).length=b.length+12:=by simp[put,yw1,head];omega
theorem u8n (n:Nat) (h:n < 256):(UInt8.ofNat n).toNat=n:=by
 rw[UInt8.toNat_ofNat'];omega
theorem dx2 {l:List UInt8} {p:Nat} (h:(take l p).2.2.2=0):p+12<=(take l p).2.2.1/\(take l p).2.2.1<=l.length:=by
 unfold take at h ⊢;split at h
 ·simp at h
 ·split at h
  ·simp at h
  ·split at h
   ·simp at h
   ·split at h
    ·simp at h
    ·split at h
     ·simp at h
     ·rename_i h1 h2 h3 h4 h5
      rw[if_neg h1,if_neg h2,if_neg h3,if_neg h4,if_neg h5];simp only;omega
theorem xy3 (k n:Nat) (r:List UInt8) (C:k < 256) (E:n<=60000):u (head k n++r) 0=k/\size (head k n++r)=n:=by
 constructor
 ·simp[u,head,u8n k C]
 ·simp only[size,u,head,T_,C_,bN_,List.getD_cons_succ,UInt8.toNat_ofNat']
  omega
theorem wq1 (l r:List UInt8):(Crc.pz l++r).take l.length=l:=by
 simp[Crc.pz,K_]
theorem av2 (l r:List UInt8):(Crc.pz l++r).take (l.length+4)=Crc.pz l:=by
 rw[<-yw1,cy_]
theorem nw4 (k:Nat) (b r:List UInt8):put k b++r=head k b.length++(Crc.four (Crc.sum (head k b.length))++(Crc.pz b++r)):=by
 simp[put,Crc.pz]
theorem ij5 (k:Nat) (b r:List UInt8):(put k b++r).drop 8=Crc.pz b++r:=by
 have e:put k b++r=Crc.pz (head k b.length)++(Crc.pz b++r):=by simp[put]
 have C:(Crc.pz (head k b.length)).length=8:=by rw[yw1];rfl
 rw[e,<-C,bp_]
theorem jv1 (a:List UInt8) (k:Nat) (b r:List UInt8) (h1:1<=k) (h2:k<=100) (I:b.length<=60000):take (a++(put k b++r)) a.length=(k,b,a.length+(put k b).length,0):=by
 have hd:(a++(put k b++r)).drop a.length=put k b++r:=bp_;have C:(a++(put k b++r)).drop (a.length+8)=Crc.pz b++r:=by rw[<-aZ_,hd,ij5]
 have J:(a++(put k b++r)).length - a.length=b.length+12+r.length:=by simp[vk]
 obtain⟨E,H⟩:=xy3 k b.length (Crc.four (Crc.sum (head k b.length))++(Crc.pz b++r)) o_ I;rw[<-nw4]at E H;have O:(put k b++r).take 4=head k b.length:=by
  have:=wq1 (head k b.length) (Crc.pz b++r);rw[show put k b++r=Crc.pz (head k b.length)++(Crc.pz b++r) from by simp[put]];exact this
 have e8:(put k b++r).take 8=Crc.pz (head k b.length):=by
  have:=av2 (head k b.length) (Crc.pz b++r);rw[show put k b++r=Crc.pz (head k b.length)++(Crc.pz b++r) from by simp[put]];exact this
 unfold take;rw[J,hd,C,E,H,O,e8,wq1,av2,if_neg o_,if_neg (fun h=>h rfl),if_neg o_,if_neg o_,if_neg (fun h=>h rfl),vk];rw[show a.length+8+b.length+4=a.length+(b.length+12) from by omega]
end Fr
def u64v (ns:List Nat):List Value:=ns.map fun n:Nat=>.int .u64 (n:Int)
theorem vq3 (ns:List Nat) (k:Nat):(u64v ns)[k]?=(ns[k]?).map fun n:Nat=>.int .u64 (n:Int):=by simp[u64v]
theorem Row.un {B n:Nat} {w:World} {A:Option Addr} {ns:List Nat} (h:Row B w A n 1 (u64v ns)) {k:Nat} (H:k < n):∃a,∃E:k < ns.length,A=some a/\a.block < B/\w.cell? (a.add k)=some (.int .u64 ((ns[k]:Nat):Int)):=by
 obtain⟨a,v,e,I,C,J⟩:=h.at1 H;have E:k < ns.length:=by
  have:=h.len;simp[u64v]at this;omega
 rw[vq3,h_ E]at C;injection C with C;subst C;exact⟨a,E,e,I,J⟩
theorem Row.bx6 {B n:Nat} {w:World} {A:Option Addr} {ns:List Nat} (h:Row B w A n 1 (u64v ns)):ns.length=n:=by
 have:=h.len;simp[u64v]at this;omega
theorem ax2 (ns:List Nat):(ns.flatMap Pn.put).length<=ns.length *10:=by
 induction ns with
 |nil=>simp
 |cons n r C=>
  have:=(Pn.jq n).2;simp only[S_,d_,q_];omega
theorem cq5 (A:Option Addr) (N c:Nat) (l:List UInt8) (L:Option Addr) (m d:Nat) (ns:List Nat) (w:World) (hN:N<=1000000) (hm:m<=1000) (hr:Row w.heap.size w A N 1 (bts l)) (hq:Row w.heap.size w L m 1 (u64v ns)) (a0:∀n∈ns,n < 18446744073709551616):
  Calls Tryz.prog 248 #[.slice A N c,.slice L m d] w fun e w'=>∃A' M E,e=.returned (.slice A' M E)/\
   w'.ownsRow w.heap.size 5 1 (.slice A' M E) M (bts (l++Pn.list ns))/\M<=E/\E<=maxLen/\Below w.heap.size w w':=by
 have b9:=hr.zk;have a1:=hq.bx6;have b':∀w,(convert 3 27 (.int .i64 (m:Int))).run Tryz.prog w=.ok (.int .u64 (m:Int)) w:=by
  intro w;have:(m:Int) % 18446744073709551616=(m:Int):=o_
  simp[go_sem,convert,IntKind.wrap_u64,this]
 go_enter Tryz.func248,Tryz.ntmps248;go_wp2_with fail;refine(put_any A N c l m o_ w o_ hr).mono ?_;rintro e w1 ⟨A1,c1,rfl,I,J,a2,a4⟩;obtain⟨M1,H⟩:=n_ (N+(Pn.put m).length);have b7:M1<=N+10:=by have:=(Pn.jq m).2;omega
 rw[<-H]at I J ⊢;have HM:=H_ H;clear H;go_wp2
 go_loopw [5,15] (fun o i wr=>∃(k:Nat) (A':Option Addr) (M E:Nat),k<=m/\o=.slice A' M E/\i=.int .i64 (k:Int)/\wr.ownsRow w.heap.size 5 1 (.slice A' M E) M (bts (l++(Pn.put m++(ns.take k).flatMap Pn.put)))/\M<=E/\E<=maxLen/\Below w.heap.size w wr) (fun _ i _=>m - (intOf i).toNat)
 case atStart=>exact⟨0,A1,M1,c1,w_ _,rfl,rfl,by simpa using I,J,a2,a4⟩
 case round=>
  obtain⟨k,A',M,E,hk,rfl,rfl,C,a5,a6,Z⟩:=hrel;have O:M=N+((Pn.put m).length+((ns.take k).flatMap Pn.put).length):=by
   have h1:=C.1;rw[rq]at h1;simp only[d_]at h1;omega
  have d0:M<=N+10+10000:=by
   have h1:=ax2 (ns.take k);have h2:=(Pn.jq m).2;have h3:=List.length_take_le k ns;omega
  have d1:=H_ O;clear O
  by_cases a7:k < m
  ·obtain⟨a,hl,rfl,d2,hc⟩:=(hq.below Z).un a7
   have Q:ns.take (k+1)=ns.take k++[ns[k]]:=(aS_ hl).symm;have a8:=a0 ns[k] (u_ hl);generalize ns[k]=x at *;have HT:=H_ Q;clear Q;go_wp2_with fail;refine(put_any A' M E (l++(Pn.put m++(ns.take k).flatMap Pn.put)) x a8 wr o_ (Row.own C)).mono ?_;rintro e w2 ⟨A2,c2,rfl,a9,a',b0,b1⟩;go_wp2;go_roundw
   case rel=>
    refine⟨k+1,A2,M+(Pn.put x).length,c2,o_,rfl,by go_num,?_,a',b0,az Z b1⟩;have ht:ns.take (k+1)=ns.take k++[x]:=HT;rw[ht];have:=own_base a9 Z.size;simpa [K_] using this
   case measure=>simp[intOf];omega
  ·have b2:k=m:=o_
   have U:l++(Pn.put m++(ns.take k).flatMap Pn.put)=l++Pn.list ns:=by
    rw[b2,g_ o_,Pn.list,a1]
   rw[U]at C;go_wp2;go_ret;exact⟨A',M,E,rfl,C,a5,a6,Z⟩
structure Vw where
 log:Int
 files:List (Int×Int)
 floor:Nat
 cert:Nat
 at_:Nat
 lease:Nat
structure Ed where
 drop:List Int
 add:List (Int×Int)
 log:Int
 floor:Nat
 cert:Nat
 at_:Nat
 lease:Nat
def isNum (n:Int):Bool:=decide (1<=n) &&decide (n<=1073741824)
def xq (f:Int×Int):Bool:=isNum f.2&&(decide (0<=f.1) &&decide (f.1<=3))
def bj3 (a b c d:Nat):Bool:=decide (a<=281474976710656) &&decide (b<=281474976710656) &&decide (c<=281474976710656) &&decide (d<=281474976710656)
def apart:List (Int×Int)->Bool
 |[]=>true
 |f::r=>r.all (fun g=>!(g.2==f.2)) &&apart r
def Vw.ok (v:Vw):Bool:=isNum v.log&&decide (v.files.length<=40) &&bj3 v.floor v.cert v.at_ v.lease&&v.files.all xq&&apart v.files
def Ed.may (e:Ed):Bool:=decide (e.drop.length<=40) &&decide (e.add.length<=40) &&(decide (0<=e.log) &&decide (e.log<=1073741824)) &&bj3 e.floor e.cert e.at_ e.lease&&e.drop.all isNum&&e.add.all xq
def dropAll:List Int->List (Int×Int)->Option (List (Int×Int))
 |[],fs=>some fs
 |n::r,fs=>if fs.any (fun f=>f.2==n) then dropAll r (fs.eraseP fun f=>f.2==n) else none
def orElse (a b:Nat):Nat:=if a=0 then b else a
def Vw.app (v:Vw) (e:Ed):Option Vw:=match dropAll e.drop v.files with
 |none=>none
 |some fs=>if (Vw.ok { log:=if e.log=0 then v.log else e.log,files:=fs++e.add,floor:=orElse e.floor v.floor,cert:=orElse e.cert v.cert,at_:=orElse e.at_ v.at_,lease:=orElse e.lease v.lease }) then
   some { log:=if e.log=0 then v.log else e.log,files:=fs++e.add,floor:=orElse e.floor v.floor,cert:=orElse e.cert v.cert,at_:=orElse e.at_ v.at_,lease:=orElse e.lease v.lease } else none
def Vw.none_:Vw:=⟨0,[],0,0,0,0⟩
def Vw.whole (v:Vw):Ed:=⟨[],v.files,v.log,v.floor,v.cert,v.at_,v.lease⟩
def Ed.bytes (e:Ed):List UInt8:=Pn.list (e.drop.map Int.toNat)++(Pn.put e.add.length++(e.add.flatMap (fun f=>Pn.put f.1.toNat++Pn.put f.2.toNat)++
 (Pn.put e.log.toNat++(Pn.put e.floor++(Pn.put e.cert++(Pn.put e.at_++Pn.put e.lease))))))
def Ed.rec_ (e:Ed):List UInt8:=Fr.put 6 e.bytes
theorem uj2 {α:Type} (f:α->List UInt8) (n:Nat):∀l:List α,(∀x∈l,(f x).length<=n)->(l.flatMap f).length<=l.length *n
 |[],_=>by simp
 |x::r,h=>by
  have h1:=h x s_;have h2:=uj2 f n r (fun y C=>h y (by simp[C]));simp only[S_,d_,q_,bu_];omega
theorem Ed.bq1 (e:Ed) (h:e.may=true):e.bytes.length<=2000:=by
 simp only[Ed.may,G_,decide_eq_true_eq]at h;have h1:=uj2 Pn.put 10 (e.drop.map Int.toNat) (fun x _=>(Pn.jq x).2);have h2:=uj2 (fun f:Int×Int=>Pn.put f.1.toNat++Pn.put f.2.toNat) 20 e.add (fun f _=>by
  have:=(Pn.jq f.1.toNat).2;have:=(Pn.jq f.2.toNat).2;simp only[d_];omega)
 have E:=(Pn.jq (e.drop.map Int.toNat).length).2;have H:=(Pn.jq e.add.length).2;have a3:=(Pn.jq e.log.toNat).2;have I:=(Pn.jq e.floor).2;have J:=(Pn.jq e.cert).2;have O:=(Pn.jq e.at_).2;have Q:=(Pn.jq e.lease).2;have C:(e.drop.map Int.toNat).length=e.drop.length:=by simp
 simp only[Ed.bytes,Pn.list,d_];rw[C]at h1;omega
@[ext] structure It where
 s:Int
 k:Int
 t:Nat
 v:Nat
 x:Int
instance :DecidableEq It:=fun a b=>decidable_of_iff (a.s=b.s/\a.k=b.k/\a.t=b.t/\a.v=b.v/\a.x=b.x) ⟨fun⟨h1,h2,h3,h4,h5⟩=>It.ext h1 h2 h3 h4 h5,fun h=>by subst h;simp⟩
namespace It
def ok (a:It):Bool:=decide (0<=a.s) &&decide (a.s<=255) &&decide (1<=a.v) &&decide (a.v<=281474976710656) &&(a.k==1&&a.t==0&&a.x==0||a.k==2&&decide (a.t<=1099511627776))
def less (a b:It):Bool:=if a.s≠b.s then decide (a.s < b.s) else if a.k≠b.k then decide (a.k < b.k) else decide (a.t < b.t)
def same (a b:It):Bool:= !less a b&&!less b a
def wins (a b:It):Bool:=decide (b.v < a.v)||a.v==b.v&&decide (b.x < a.x)
def hides (t a:It):Bool:=t.k==1&&a.k==2&&t.s==a.s&&decide (a.v<=t.v)
variable {a b c d t:It}
theorem uz:less a b=true↔a.s < b.s\/a.s=b.s/\(a.k < b.k\/a.k=b.k/\a.t < b.t):=by
 unfold less;split<;>(try split) <;>simp<;>omega
theorem bz1:less a b=false↔¬(a.s < b.s\/a.s=b.s/\(a.k < b.k\/a.k=b.k/\a.t < b.t)):=by
 rw[<-uz];simp
theorem same_iff:same a b=true↔a.s=b.s/\a.k=b.k/\a.t=b.t:=by
 unfold same;simp only[G_,av_,bz1];omega
theorem jx1:wins a b=true↔b.v < a.v\/a.v=b.v/\b.x < a.x:=by simp[wins]
theorem uq:wins a b=false↔¬(b.v < a.v\/a.v=b.v/\b.x < a.x):=by rw[<-jx1];simp
theorem jq1:hides t a=true↔t.k=1/\a.k=2/\t.s=a.s/\a.v<=t.v:=by simp[hides,and_assoc]
theorem qj1:hides t a=false↔¬(t.k=1/\a.k=2/\t.s=a.s/\a.v<=t.v):=by rw[<-jq1];simp
theorem gz1 (a:It):less a a=false:=by rw[bz1];omega
theorem vv1 (a:It):same a a=true:=by rw[same_iff];simp
theorem cz1 (h:less a b=true) (k:less b c=true):less a c=true:=by
 rw[uz]at *;omega
theorem eq_of (h:same a b=true) (k:wins a b=false) (C:wins b a=false):a=b:=by
 rw[same_iff]at h;rw[uq]at k C;exact It.ext o_ o_ o_ o_ o_
end It
open It
def best (L:List It) (y:It):Prop:=y∈L/\y.ok=true/\(∀z∈L,z.ok=true->same z y=true->wins z y=false)/\∀z∈L,z.ok=true->hides z y=false
def Eqv (L L':List It):Prop:=∀y,best L y↔best L' y
variable {L L' A B:List It} {x y z:It}
theorem oy5 (L:List It) (z:It) (J:z∈L) (O:z.ok=true):∃y∈L,y.ok=true/\same y z=true/\wins z y=false/\∀u∈L,u.ok=true->same u y=true->wins u y=false:=by
 induction L generalizing z with
 |nil=>cases J
 |cons a L ih=>
  by_cases hex:∃u∈L,u.ok=true/\same u z=true
  ·obtain⟨u,E,C,H⟩:=hex
   obtain⟨y,hy,a0,a6,_,I⟩:=ih u E C;have a1:same y z=true:=by rw[same_iff]at *;omega
   by_cases Z:a.ok=true/\same a y=true/\wins a y=true
   ·obtain⟨Z,has,Q⟩:=Z
    refine⟨a,i_,Z,by rw[same_iff]at *;omega,?_,fun u E C H=>?_⟩
    ·rcases f_.1 J with rfl|J
     ·rw[uq];omega
     ·have:=I z J O (by rw[same_iff]at *;omega)
      rw[jx1]at Q;rw[uq]at *;omega
    ·rcases f_.1 E with rfl|E
     ·rw[uq];omega
     ·have:=I u E C (by rw[same_iff]at *;omega)
      rw[jx1]at Q;rw[uq]at *;omega
   ·have U:a.ok=true->same a y=true->wins a y=false:=fun h1 h2=>by
     cases h:wins a y with
     |false=>rfl
     |true=>exact absurd ⟨h1,h2,h⟩ Z
    refine⟨y,e_ _ hy,a0,a1,?_,fun u E C H=>?_⟩
    ·rcases f_.1 J with rfl|J
     ·exact U O (by rw[same_iff]at *;omega)
     ·exact I z J O (by rw[same_iff]at *;omega)
    ·rcases f_.1 E with rfl|E
     ·exact U C H
     ·exact I u E C H
  ·have a2:z=a:=by
    rcases f_.1 J with h|h
    ·exact h
    ·exact absurd ⟨z,h,O,vv1 z⟩ hex
   subst a2;refine⟨z,i_,O,vv1 z,by rw[uq];omega,fun u E C H=>?_⟩
   rcases f_.1 E with rfl|E
   ·rw[uq];omega
   ·exact absurd ⟨u,E,C,H⟩ hex
theorem zk2 (hz:z∈L) (hk:z.ok=true):(∃y,best L y/\same y z=true/\wins z y=false)\/∃t,best L t/\hides t z=true:=by
 obtain⟨y,hy,H,C,E,I⟩:=oy5 L z hz hk
 by_cases hh:∃t∈L,t.ok=true/\hides t y=true
 ·obtain⟨t,ht,J,O⟩:=hh
  obtain⟨u,hu,Q,U,Z,a0⟩:=oy5 L t ht J;rw[jq1]at O;rw[same_iff]at U C;rw[uq]at Z E;refine .inr ⟨u,⟨hu,Q,a0,fun q _ _=>?_⟩,?_⟩
  ·rw[qj1];omega
  ·rw[jq1];omega
 ·refine .inl ⟨y,⟨hy,H,I,fun q hq a1=>?_⟩,C,E⟩
  cases h:hides q y with
  |false=>rfl
  |true=>exact absurd ⟨q,hq,a1,h⟩ hh
theorem Eqv.between (h1:∀y,best L y->y∈L') (h2:∀y∈L',y.ok=true->y∈L):Eqv L' L:=by
 intro y;constructor
 ·rintro⟨hy,I,Z,J⟩
  refine⟨h2 y hy I,I,fun z E C hs=>?_,fun z E C=>?_⟩
  ·rcases zk2 E C with ⟨u,O,Q,U⟩|⟨t,ht,H⟩
   ·have:=Z u (h1 u O) O.2.1 (by rw[same_iff]at *;omega)
    rw[uq]at *;omega
   ·have h3:=J t (h1 t ht) ht.2.1
    rw[same_iff]at hs;rw[qj1]at h3;rw[jq1]at H;rw[uq];omega
  ·rcases zk2 E C with ⟨u,O,Q,U⟩|⟨t,ht,H⟩
   ·have h3:=J u (h1 u O) O.2.1
    rw[same_iff]at Q;rw[uq]at U;rw[qj1]at *;omega
   ·rw[jq1]at H
    rw[qj1];omega
 ·rintro⟨hy,I,Z,J⟩
  exact⟨h1 y ⟨hy,I,Z,J⟩,I,fun z E C=>Z z (h2 z E C) C,fun z E C=>J z (h2 z E C) C⟩
theorem Eqv.cx6 (h:∀y,y.ok=true->(y∈L↔y∈L')):Eqv L L':=fun y=>
 ⟨fun⟨a,k,b,c⟩=>⟨(h y k).1 a,k,fun z E C=>b z ((h z C).2 E) C,fun z E C=>c z ((h z C).2 E) C⟩,
  fun⟨a,k,b,c⟩=>⟨(h y k).2 a,k,fun z E C=>b z ((h z C).1 E) C,fun z E C=>c z ((h z C).1 E) C⟩⟩
theorem best.of_sub (h:best L y) (E:y∈L') (hs:∀z∈L',z∈L):best L' y:=⟨E,h.2.1,fun z C=>h.2.2.1 z (hs z C),fun z C=>h.2.2.2 z (hs z C)⟩
theorem yv4 {p:It->Prop} (E:∀y,p y↔best L y) (y:It) (l:List It) (H:∀y,y∈l↔p y):best (A++l) y↔best (A++L) y:=by
 refine Eqv.between (L:=A++L) (fun y C=>?_) (fun y C _=>?_) y
 ·rcases k_.1 C.1 with h|h
  ·exact x_ _ h
  ·exact p_ _ ((H y).2 ((E y).2 (C.of_sub h (fun z I=>p_ _ I))))
 ·rcases k_.1 C with h|h
  ·exact x_ _ h
  ·exact p_ _ ((E y).1 ((H y).1 h)).1
def qx (l:List It):Prop:=l.Pairwise (fun a b=>less a b=true)
instance (l:List It):Decidable (qx l):=by unfold qx;infer_instance
structure Stt (l:List It):Prop where
 rises:qx l
 ok:∀y∈l,y.ok=true
 bare:∀a∈l,∀b∈l,hides a b=false
theorem mj1 {l:List It} (h:qx l) {a b:It} (H:a∈l) (I:b∈l) (hs:same a b=true):a=b:=by
 induction l with
 |nil=>cases H
 |cons c l J=>
  obtain⟨h1,h2⟩:=U_.1 h;rw[same_iff]at hs
  rcases f_.1 H with C|C<;>rcases f_.1 I with E|E
  ·rw[C,E]
  ·have:=h1 b E;rw[<-C,uz]at this;omega
  ·have:=h1 a C;rw[<-E,uz]at this;omega
  ·exact J h2 C E
theorem Stt.best {l:List It} (h:Stt l) (y:It):y∈l↔best l y:=
 ⟨fun C=>⟨C,h.ok y C,fun z E _ hs=>by rw[mj1 h.rises E C hs,uq];omega,fun z E _=>h.bare z E y C⟩,fun C=>C.1⟩
theorem qj3:∀{l E:List It},qx l->qx E->(∀y,y∈l↔y∈E)->l=E
 |[],[],_,_,_=>rfl
 |[],b::r,_,_,h=>absurd ((h b).2 i_) s_
 |a::r,[],_,_,h=>absurd ((h a).1 i_) s_
 |a::r,b::q,h1,h2,h=>by
  obtain⟨I,J⟩:=U_.1 h1;obtain⟨b1,b2⟩:=U_.1 h2;have H:a=b:=by
   rcases f_.1 ((h a).1 i_) with e|e
   ·exact e
   ·rcases f_.1 ((h b).2 i_) with f|f
    ·exact f.symm
    ·have h3:=b1 a e
     have h4:=I b f;rw[uz]at h3 h4;omega
  subst H
  congr 1
  refine qj3 J b2 fun y=>⟨fun C=>?_,fun C=>?_⟩
  ·rcases f_.1 ((h y).1 (e_ _ C)) with e|e
   ·subst e
    have:=I y C;rw[gz1]at this
    cases this
   ·exact e
  ·rcases f_.1 ((h y).2 (e_ _ C)) with e|e
   ·subst e
    have:=b1 y C;rw[gz1]at this
    cases this
   ·exact e
theorem Stt.filter {l:List It} (h:Stt l) (p:It->Bool):Stt (l.filter p):=
 ⟨h.rises.filter _,fun y C=>h.ok y (P_.1 C).1,fun a E b H=>h.bare a (P_.1 E).1 b (P_.1 H).1⟩
theorem Stt.nil:Stt []:=⟨aY_,s_,s_⟩
def pos (l:List It) (x:It):Nat:=(l.takeWhile fun a=>less a x).length
def put (l:List It) (x:It):List It:=l.filter (fun y=>less y x)++x::l.filter (fun y=>less x y)
def hidden (l:List It) (x:It):Bool:=l.any fun t=>hides t x
def yz (l:List It) (x:It):Bool:=l.any fun y=>same y x&&!wins x y
def add (l:List It) (x:It):List It:=if (!x.ok||hidden l x||yz l x)=true then l else (put l x).filter fun y=>!hides x y
def joins (a b:List It):List It:=b.foldl add a
theorem cx3 (l:List It) (x:It):pos l x<=l.length:=by
 unfold pos;exact(List.takeWhile_prefix _).length_le
theorem cw2 {l:List It} (h:qx l) (x:It):l.take (pos l x)=l.filter (fun y=>less y x)/\l.drop (pos l x)=l.filter (fun y=>!less y x):=by
 induction l with
 |nil=>simp[pos]
 |cons a r E=>
  obtain⟨I,J⟩:=U_.1 h;have E:=E J;unfold pos at E ⊢
  cases H:less a x with
  |true=>simp only[List.takeWhile_cons,H,if_true,q_,cc_,bM_,ar_,E,ca_,af_,if_false,and_self]
  |false=>
   have h1:∀y∈r,less y x=false:=fun y C=>by
    have:=I y C;rw[uz]at this;rw[bz1]at *;omega
   have h2:r.filter (fun y=>less y x)=[]:=aq_.2 (fun y C=>by simp[h1 y C]);have h3:r.filter (fun y=>!less y x)=r:=az_.2 (fun y C=>by simp[h1 y C]);simp[List.takeWhile_cons,H,h2,h3]
theorem xy {l:List It}:y∈put l x↔y=x\/y∈l/\same y x=false:=by
 unfold put;simp only[k_,P_,f_];have:same y x=false↔less y x=true\/less x y=true:=by
  unfold same
  cases less y x<;>cases less x y<;>simp
 rw[this];constructor
 ·rintro(h|h|h)
  ·exact .inr ⟨h.1,.inl h.2⟩
  ·exact .inl h
  ·exact .inr ⟨h.1,.inr h.2⟩
 ·rintro(h|⟨h,k|k⟩)
  ·exact .inr (.inl h)
  ·exact .inl ⟨h,k⟩
  ·exact .inr (.inr ⟨h,k⟩)
theorem nz1 {l:List It} (h:qx l):qx (put l x):=by
 unfold put qx;refine aO_.2 ⟨h.filter _,U_.2 ⟨fun y E=>(P_.1 E).2,h.filter _⟩,fun a H b C=>?_⟩;have h1:=(P_.1 H).2
 rcases f_.1 C with rfl|C
 ·exact h1
 ·exact cz1 h1 (P_.1 C).2
theorem gz4 {l:List It} (h:qx l) (O:∀y,l[pos l x]?=some y->same y x=false):put l x=l.take (pos l x)++x::l.drop (pos l x):=by
 obtain⟨h1,h2⟩:=cw2 h x;unfold put;rw[h1]
 congr 2
 have hd:∀y∈l.drop (pos l x),less x y=true:=fun y C=>by
  have hs:=h.sublist (List.drop_sublist (pos l x) l);have Q:less y x=false:=by rw[h2]at C;simpa using (P_.1 C).2
  cases E:l.drop (pos l x) with
  |nil=>rw[E]at C;cases C
  |cons c r=>
   have U:l[pos l x]?=some c:=by
    have:=ax_ (xs:=l) (i:=pos l x) (j:=0);rw[E]at this;simpa using this.symm
   have H:=O c U;have J:less c x=false:=by
    have:c∈l.drop (pos l x):=by rw[E];simp
    rw[h2]at this;simpa using (P_.1 this).2
   have I:less x c=true:=by
    unfold same at H;rw[J]at H;simpa using H
   rw[E]at C hs;obtain⟨Z,_⟩:=U_.1 hs
   rcases f_.1 C with rfl|C
   ·exact I
   ·exact cz1 I (Z y C)
 have e:l.filter (fun y=>less x y)=(l.drop (pos l x)).filter (fun y=>less x y):=by
  conv=>lhs;rw[<-al_ (pos l x) l,aQ_]
  rw[aq_.2,C_];intro y C;rw[h1]at C;have:=(P_.1 C).2;rw[uz]at this;simp only[cu_,bz1];omega
 rw[e];exact az_.2 hd
theorem wk5 {l:List It} (h:qx l) {c:It} (O:l[pos l x]?=some c) (hs:same c x=true):put l x=l.set (pos l x) x:=by
 have I:pos l x < l.length:=(J_.1 O).1;have C:=(J_.1 O).2;refine qj3 (nz1 h) ?_ (fun y=>?_)
 ·unfold qx
  rw[a2_,if_pos I];have h0:qx (l.take (pos l x)++c::l.drop (pos l x+1)):=by
   rw[<-C,bZ_,al_];exact h
  obtain⟨b1,b2,Q⟩:=aO_.1 h0;obtain⟨b4,b5⟩:=U_.1 b2;rw[same_iff]at hs;refine aO_.2 ⟨b1,U_.2 ⟨fun y H=>?_,b5⟩,fun a U b J=>?_⟩
  ·have:=b4 y H
   rw[uz]at *;omega
  ·rcases f_.1 J with rfl|J
   ·have:=Q a U c s_
    rw[uz]at *;omega
   ·exact Q a U b (by simp[J])
 ·rw[xy]
  constructor
  ·rintro(rfl|⟨H,Z⟩)
   ·exact List.mem_set I _
   ·obtain⟨i,hi,rfl⟩:=aX_ H
    have E:pos l x≠i:=fun e=>by subst e;rw[C,hs]at Z;cases Z
    exact bE_.2 ⟨i,by simpa using hi,by rw[bJ_,if_neg E]⟩
  ·intro H
   obtain⟨i,hi,rfl⟩:=aX_ H;simp only[aE_]at hi;rw[bJ_];split
   ·exact .inl rfl
   ·rename_i E
    refine .inr ⟨u_ _,?_⟩
    cases hq:same l[i] x with
    |false=>rfl
    |true=>
     exfalso;have:l[i]=c:=mj1 h (u_ _) (by rw[<-C];exact u_ _) (by rw[same_iff]at *;omega);rw[<-C]at this;have h3:=ap_.1 h
     rcases ch_ E with h4|h4
     ·have:=h3 _ _ I hi h4
      simp_all [gz1]
     ·have:=h3 _ _ hi I h4
      simp_all [gz1]
theorem xq5 {l:List It} (h:Stt l):Stt (add l x)/\∀y,y∈add l x↔best (x::l) y:=by
 unfold add;split
 ·rename_i E
  refine⟨h,fun y=>(h.best y).trans (Eqv.between (L:=x::l) (L':=l) (fun y H=>?_) (fun y H _=>e_ _ H) y)⟩
  rcases f_.1 H.1 with rfl|h1
  ·obtain⟨_,I,Q,O⟩:=H
   simp only[bR_,av_,hidden,yz,ay_,G_]at E
   rcases E with (E|⟨t,ht,E⟩)|⟨z,C,hs,E⟩
   ·rw[E]at I;cases I
   ·rw[O t (e_ _ ht) (h.ok t ht)]at E;cases E
   ·have h2:=Q z (e_ _ C) (h.ok z C) hs
    rw[<-It.eq_of hs h2 E];exact C
  ·exact h1
 ·rename_i E
  have E:(!x.ok||hidden l x||yz l x)=false:=by simpa using E
  simp only[b7_,Bool.not_eq_false',hidden,yz,X_,G_,not_and,av_,cu_,b4_]at E;obtain⟨⟨I,O⟩,hb⟩:=E;have U:hides x x=false:=by rw[qj1];omega
  refine⟨⟨(nz1 h.rises).filter _,fun y H=>?_,fun a ha b Z=>?_⟩,fun y=>?_⟩
  ·rcases xy.1 (P_.1 H).1 with rfl|⟨h1,_⟩
   ·exact I
   ·exact h.ok y h1
  ·obtain⟨a0,a9⟩:=P_.1 ha
   obtain⟨a1,a2⟩:=P_.1 Z
   rcases xy.1 a0 with rfl|⟨h1,_⟩
   ·simpa using a2
   ·rcases xy.1 a1 with rfl|⟨h2,_⟩
    ·exact O a h1
    ·exact h.bare a h1 b h2
  ·rw[P_,xy]
   constructor
   ·rintro⟨rfl|⟨H,hn⟩,J⟩
    ·refine⟨i_,I,fun z C _ hs=>?_,fun z C _=>?_⟩
     ·rcases f_.1 C with rfl|C
      ·rw[uq];omega
      ·have:=hb z C hs
       rw[jx1]at this;rw[uq];omega
     ·rcases f_.1 C with rfl|C
      ·exact U
      ·exact O z C
    ·have J:hides x y=false:=by simpa using J
     refine⟨e_ _ H,h.ok y H,fun z C _ hs=>?_,fun z C _=>?_⟩
     ·rcases f_.1 C with rfl|C
      ·rw[same_iff]at hs
       exfalso;have:same y z=true:=by rw[same_iff];omega
       rw[this]at hn;cases hn
      ·rw[mj1 h.rises C H hs,uq];omega
     ·rcases f_.1 C with rfl|C
      ·exact J
      ·exact h.bare z C y H
   ·rintro⟨H,a',Q,a4⟩
    have J:=a4 x i_ I;refine⟨?_,by simp[J]⟩
    rcases f_.1 H with h1|h1
    ·exact .inl h1
    ·refine .inr ⟨h1,?_⟩
     cases hs:same y x with
     |false=>rfl
     |true=>
      have h2:=hb y h1 hs;have h3:=Q x i_ I (by rw[same_iff]at *;omega);rw[h2]at h3;cases h3
theorem uv1 (b:List It):∀{a:List It},Stt a->Stt (joins a b)/\∀y,y∈joins a b↔best (b++a) y:=by
 induction b with
 |nil=>exact fun h=>⟨h,h.best⟩
 |cons x b C=>
  intro a h;obtain⟨h1,h2⟩:=xq5 (x:=x) h;obtain⟨h3,h4⟩:=C h1;refine⟨h3,fun y=>(h4 y).trans ((yv4 (p:=fun y=>y∈add a x) (L:=x::a) h2 y (add a x) (fun y=>Iff.rfl)).trans ?_)⟩;exact Eqv.cx6 (fun y _=>by simp[or_left_comm]) y
def ofs (l:List It):List It:=joins [] l
theorem jq (l:List It) (x:It):(put l x).length<=l.length+1:=by
 have h1:(l.filter (fun y=>less y x)).length+(l.filter (fun y=>less x y)).length<=l.length:=by
  induction l with
  |nil=>simp
  |cons a r C=>
   simp only[ar_,q_]
   cases h1:less a x<;>cases h2:less x a
   ·simp only[af_,if_false];omega
   ·simp only[af_,if_false,if_true,q_];omega
   ·simp only[af_,if_false,if_true,q_];omega
   ·rw[uz]at h1 h2;omega
 unfold put;simp only[d_,q_];omega
theorem qx5 (l:List It) (x:It):(add l x).length<=l.length+1:=by
 unfold add;split
 ·omega
 ·exact j_ (L_ _ _) (jq l x)
theorem lq2 (b:List It):∀a:List It,(joins a b).length<=a.length+b.length:=by
 induction b with
 |nil=>intro a;simp[joins]
 |cons x b C=>
  intro a;have h1:=C (add a x);have h2:=qx5 a x;simp only[joins,aT_,q_]at *;omega
end
theorem zy1 {B n:Nat} {w:World} {A:Option Addr} {l:List UInt8} (h:Row B w A n 1 (bts l)) (c:Nat):(convert 150 9 (.slice A n c)).run Tryz.prog w=.ok (.string ⟨l.toArray⟩) w:=
 ak5 _ _ 5 Tryz.underlying150 Tryz.underlying5 Tryz.underlying9 h c
theorem uj3 (A:Option Addr) (n c:Nat) (l:List UInt8) (w:World) (hn:n<=c) (I:c<=maxLen) (h4:4<=n) (J:n<=1073741824) (H:Row w.heap.size w A n 1 (bts l)) (U:(Crc.pz (l.take (n - 4))==l)=false):
  Calls Tryz.prog 174 #[.slice A n c] w fun e w'=>e=.returned (.tuple #[.slice none 0 0,.int .i64 5])/\Below w.heap.size w w':=by
 have Z:c<=9223372036854775807:=I;have hcut:Row w.heap.size w A (n - 4) 1 (bts (l.take (n - 4))):=by
  have:=H.pre (m:=n - 4) o_
  rwa [bb_,<-lx1]at this
 have a0:=zy1 H.drew c;go_enter Tryz.func174,Tryz.ntmps174;go_upto_region 4 with (fail)
 go_cut [11] (fun s wx=>s=.bool true/\Below w.heap.size w wx)
 case first=>
  go_region_with (go_at_call 230;refine(cz2 A (n - 4) c (l.take (n - 4)) _ o_ I o_ hcut.drew).mono ?_;rintro e w1 ⟨A1,c1,rfl,C,_,_,E⟩;rw[Nat.sub_add_cancel h4]at C;have O:=zy1 (Row.own C) c1;have Q:=zy1 (H.drew.below E) c)
  all_goals (go_wp2_with fail;go_meet;exact⟨rfl,b0_.drew.trans E⟩)
 case rest=>
  obtain⟨rfl,hb⟩:=hcut;go_wp2;go_ret2;exact⟨rfl,hb⟩
theorem dw3 (A:Option Addr) (n c:Nat) (l:List UInt8) (w:World) (hn:n<=c) (hm:c<=maxLen) (h4:4<=n) (a':n<=1073741824) (U:Row w.heap.size w A n 1 (bts l)) (H:(Crc.pz (l.take (n - 4))==l)=true):
  Calls Tryz.prog 174 #[.slice A n c] w fun e w'=>∃A' Q,e=.returned (.tuple #[.slice A' (n - 4) Q,.int .i64 0])/\w'.ownsRow w.heap.size 5 1 (.slice A' (n - 4) Q) (n - 4) (bts (l.take (n - 4)))/\n - 4<=Q/\Q<=maxLen/\Below w.heap.size w w':=by
 obtain⟨i0,Z,a0,a1,a2⟩:=info_parts fj1;have b3:c<=9223372036854775807:=hm;have C:Row w.heap.size w A (n - 4) 1 (bts (l.take (n - 4))):=by
  have:=U.pre (m:=n - 4) o_
  rwa [bb_,<-lx1]at this
 have a4:=zy1 U.drew c;have I:(!(Crc.pz (l.take (n - 4))==l))=false:=by rw[H];rfl
 go_enter Tryz.func174,Tryz.ntmps174;go_upto_region 4 with (fail)
 go_cut [11] (fun s wx=>s=.bool false/\Below w.heap.size w wx)
 case first=>
  go_region_with (go_at_call 230;refine(cz2 A (n - 4) c (l.take (n - 4)) _ o_ hm o_ C.drew).mono ?_;rintro e w1 ⟨A1,c1,rfl,J,_,_,O⟩;rw[Nat.sub_add_cancel h4]at J;have b0:=zy1 (Row.own J) c1;have b1:=zy1 (U.drew.below O) c)
  all_goals (go_wp2_with fail;go_meet;exact⟨rfl,b0_.drew.trans O⟩)
 case rest=>
  obtain⟨rfl,hb⟩:=hcut;clear H I a4;go_wp2_with (at_builtin;refine iy ?_);refine bz (vw rfl (.const (.slice none 0 0)) (.tmp 22) _ rfl w.heap.size 5 i0 _ 1 1 Tryz.underlying150 Z a0 a1 a2 rfl o_ w hb hb.size rfl w.heap.size A (n - 4) c (bts (l.take (n - 4))) rfl (C.below hb) (av1 _) (by unfold maxLen;omega) o_ ?_);intro A2 c2 w2 E a6 _ a7 a8;go_wp2;go_ret2;exact⟨A2,c2,rfl,E,a7,a8,a6⟩
section
open It
def win (L:List It) (y:It):Prop:=y∈L/\∀z∈L,same z y=true->wins z y=false
def wput (l:List It) (x:It):List It:=if yz l x=true then l else put l x
def rj1 (L:List It):List It:=L.foldl wput []
variable {L:List It} {x y:It}
theorem kq5 {l:List It} (h:qx l) (O:∀y,y∈l↔win L y):qx (wput l x)/\∀y,y∈wput l x↔win (x::L) y:=by
 have Q:∀z∈L,∃y∈l,same y z=true/\wins z y=false:=fun z C=>by
  have key:∀(L:List It) (z:It),z∈L->∃y,win L y/\same y z=true/\wins z y=false:=by
   intro L
   induction L with
   |nil=>intro z C;cases C
   |cons a L ih=>
    intro z C
    by_cases hex:∃u∈L,same u z=true
    ·obtain⟨u,H,a8⟩:=hex
     obtain⟨y,E,a9,a'⟩:=ih u H;have a4:same y z=true:=by rw[same_iff]at *;omega
     have U:z∈L->wins z y=false:=fun h=>E.2 z h (by rw[same_iff]at *;omega)
     by_cases I:same a y=true/\wins a y=true
     ·refine⟨a,⟨i_,fun u H hs=>?_⟩,by have:=I.1;rw[same_iff]at *;omega,?_⟩
      ·rcases f_.1 H with rfl|H
       ·rw[uq];omega
       ·have h1:=E.2 u H (by have:=I.1;rw[same_iff]at *;omega)
        have h2:=I.2;rw[jx1]at h2;rw[uq]at *;omega
      ·rcases f_.1 C with rfl|C
       ·rw[uq];omega
       ·have h1:=U C
        have h2:=I.2;rw[jx1]at h2;rw[uq]at *;omega
     ·have I:same a y=true->wins a y=false:=fun h=>by
       cases h2:wins a y with
       |false=>rfl
       |true=>exact absurd ⟨h,h2⟩ I
      refine⟨y,⟨e_ _ E.1,fun u H hs=>?_⟩,a4,?_⟩
      ·rcases f_.1 H with rfl|H
       ·exact I hs
       ·exact E.2 u H hs
      ·rcases f_.1 C with rfl|C
       ·exact I (by rw[same_iff]at *;omega)
       ·exact U C
    ·have a5:z=a:=by
      rcases f_.1 C with h|h
      ·exact h
      ·exact absurd ⟨z,h,vv1 z⟩ hex
     subst a5;refine⟨z,⟨i_,fun u H hs=>?_⟩,vv1 z,by rw[uq];omega⟩
     rcases f_.1 H with rfl|H
     ·rw[uq];omega
     ·exact absurd ⟨u,H,hs⟩ hex
  obtain⟨y,h1,h2,h3⟩:=key L z C;exact⟨y,(O y).2 h1,h2,h3⟩
 unfold wput;split
 ·rename_i J
  simp only[yz,ay_,G_,av_]at J;obtain⟨c,Z,hs,hn⟩:=J;refine⟨h,fun y=>⟨fun E=>?_,fun E=>?_⟩⟩
  ·obtain⟨h1,h2⟩:=(O y).1 E
   refine⟨e_ _ h1,fun z C a6=>?_⟩
   rcases f_.1 C with rfl|C
   ·have h3:=h2 c ((O c).1 Z).1 (by rw[same_iff]at *;omega)
    rw[uq]at *;omega
   ·exact h2 z C a6
  ·rcases f_.1 E.1 with rfl|h1
   ·have h2:=E.2 c (e_ _ ((O c).1 Z).1) hs
    rw[<-It.eq_of hs h2 hn];exact Z
   ·exact(O y).2 ⟨h1,fun z C=>E.2 z (e_ _ C)⟩
 ·rename_i J
  have J:yz l x=false:=by simpa using J
  simp only[yz,X_,G_,not_and,av_,b4_]at J;refine⟨nz1 h,fun y=>?_⟩;rw[xy];constructor
  ·rintro(rfl|⟨E,hn⟩)
   ·refine⟨i_,fun z C hs=>?_⟩
    rcases f_.1 C with rfl|C
    ·rw[uq];omega
    ·obtain⟨c,Z,b0,b1⟩:=Q z C
     have:=J c Z (by rw[same_iff]at *;omega);rw[jx1]at this;rw[uq]at *;omega
   ·obtain⟨h1,h2⟩:=(O y).1 E
    refine⟨e_ _ h1,fun z C hs=>?_⟩
    rcases f_.1 C with rfl|C
    ·exfalso
     have:same y z=true:=by rw[same_iff]at *;omega
     rw[this]at hn;cases hn
    ·exact h2 z C hs
  ·rintro⟨E,a0⟩
   rcases f_.1 E with h1|h1
   ·exact .inl h1
   ·have a1:y∈l:=(O y).2 ⟨h1,fun z C=>a0 z (e_ _ C)⟩
    refine .inr ⟨a1,?_⟩
    cases hs:same y x with
    |false=>rfl
    |true=>
     have h2:=J y a1 hs;have h3:=a0 x i_ (by rw[same_iff]at *;omega);rw[h2]at h3;cases h3
theorem mq4 (b:List It):∀{a L:List It},qx a->(∀y,y∈a↔win L y)->qx (b.foldl wput a)/\∀y,y∈b.foldl wput a↔win (b++L) y:=by
 induction b with
 |nil=>exact fun h k=>⟨h,k⟩
 |cons x b H=>
  intro a L h k;obtain⟨h1,h2⟩:=kq5 (x:=x) h k;obtain⟨h3,h4⟩:=H h1 h2;refine⟨h3,fun y=>(h4 y).trans ?_⟩;unfold win;simp only[k_,f_,T_];constructor
  ·rintro⟨h5,C⟩
   exact⟨by rcases h5 with h|h|h<;>simp[h],fun z E=>C z (by rcases E with h|h|h<;>simp[h])⟩
  ·rintro⟨h5,C⟩
   exact⟨by rcases h5 with h|h|h<;>simp[h],fun z E=>C z (by rcases E with h|h|h<;>simp[h])⟩
theorem iz2 (L:List It):qx (rj1 L)/\∀y,y∈rj1 L↔win L y:=by
 have:=mq4 L (a:=[]) (L:=[]) aY_ (fun y=>by simp[win])
 rwa [ak_]at this
theorem kw3 {L:List It} (h:y∈rj1 L):y∈L:=((iz2 L).2 y).1 h|>.1
theorem ly2 (a b:List It):rj1 (a++b)=b.foldl wput (rj1 a):=by simp[rj1]
def clean (l:List It):List It:=l.filter fun y=>!hidden l y
def yj (l:List It) (v:Nat):List It:=l.filter fun y=>!(y.k==1&&decide (y.v<=v))
theorem mz4 {l:List It} (h:Stt l) (v:Nat):Stt (yj l v):=h.filter _
end
section
open It
def sgn (x:Int):Nat:=if 0<=x then (2 *x).toNat else (-2 *x - 1).toNat
def qy1 (n:Nat):Int:=if n % 2=0 then (n / 2:Nat) else -((n / 2:Nat):Int) - 1
theorem px4 (x:Int):qy1 (sgn x)=x:=by
 unfold qy1 sgn;split<;>split<;>omega
theorem oz5 {x:Int} (h1:-9223372036854775808<=x) (h2:x < 9223372036854775808):sgn x < 2 ^ 64:=by
 unfold sgn;split<;>omega
namespace It
def fit (a:It):Prop:=-9223372036854775808<=a.x/\a.x < 9223372036854775808
def one (a:It):List UInt8:=UInt8.ofNat a.s.toNat::UInt8.ofNat a.k.toNat::(Pn.put a.t++(Pn.put a.v++Pn.put (sgn a.x)))
def bytes (l:List It):List UInt8:=Pn.put l.length++l.flatMap one
def take1 (b:List UInt8):It×List UInt8×Nat:=
 if b.length < 2 then (⟨0,0,0,0,0⟩,[],4) else
 match Pn.take (b.drop 2) with
 |(t,n1,0)=>match Pn.take ((b.drop 2).drop n1) with
  |(v,n2,0)=>match Pn.take (((b.drop 2).drop n1).drop n2) with
   |(x,n3,0)=>(⟨Fr.u b 0,Fr.u b 1,t,v,qy1 x⟩,((b.drop 2).drop n1|>.drop n2).drop n3,0)
   |(_,_,e)=>(⟨0,0,0,0,0⟩,[],e)
  |(_,_,e)=>(⟨0,0,0,0,0⟩,[],e)
 |(_,_,e)=>(⟨0,0,0,0,0⟩,[],e)
def takes:Nat->List UInt8->List It->List It×List UInt8×Nat
 |0,b,out=>(out,b,0)
 |n+1,b,out=>match take1 b with
  |(x,r,0)=>takes n r (out++[x])
  |(_,_,e)=>([],[],e)
def read (b:List UInt8):List It×Nat:=match Pn.take b with
 |(n,size,0)=>if 2000 < n then ([],2) else match takes n (b.drop size) [] with
  |(out,r,0)=>if r=[]/\out.all ok=true then (out,0) else ([],3)
  |(_,_,e)=>([],e)
 |(_,_,e)=>([],e)
theorem uy3 {a:It}:a.ok=true↔0<=a.s/\a.s<=255/\1<=a.v/\a.v<=281474976710656/\(a.k=1/\a.t=0/\a.x=0\/a.k=2/\a.t<=1099511627776):=by
 simp[ok,and_assoc]
theorem pk4 {a:It} (h:a.ok=true) (C:a.fit) (r:List UInt8):take1 (a.one++r)=(a,r,0):=by
 rw[uy3]at h;have E:(a.one++r).drop 2=Pn.put a.t++(Pn.put a.v++(Pn.put (sgn a.x)++r)):=by simp[one]
 have H:¬(a.one++r).length < 2:=by simp[one]
 unfold take1;rw[if_neg H,E,Pn.jv1 _ _ o_];simp only[bp_];rw[Pn.jv1 _ _ o_];simp only[bp_];rw[Pn.jv1 _ _ (oz5 C.1 C.2)];simp only[bp_];have I:((Fr.u (a.one++r) 0:Nat):Int)=a.s:=by
  simp only[Fr.u,one,T_,bN_];rw[Fr.u8n _ o_];omega
 have J:((Fr.u (a.one++r) 1:Nat):Int)=a.k:=by
  simp only[Fr.u,one,T_,List.getD_cons_succ,bN_];rw[Fr.u8n _ o_];omega
 rw[I,J,px4]
theorem jx2:∀(l:List It) (out:List It) (r:List UInt8),(∀a∈l,a.ok=true/\a.fit)->takes l.length (l.flatMap one++r) out=(out++l,r,0)
 |[],out,r,_=>by simp[takes]
 |a::l,out,r,h=>by
  have h1:=h a i_;simp only[q_,takes,S_,K_,pk4 h1.1 h1.2];rw[jx2 l (out++[a]) r (fun b C=>h b (e_ _ C))];simp
theorem dy4 {l:List It} (h:∀a∈l,a.ok=true/\a.fit) (H:l.length<=2000):read (bytes l)=(l,0):=by
 unfold read bytes;rw[Pn.jv1 _ _ o_];simp only[bp_];rw[if_neg o_,show l.flatMap one=l.flatMap one++[] from (ak_ _).symm,jx2 l [] [] h];have C:l.all ok=true:=ab_.2 fun a E=>(h a E).1;simp[C]
theorem vq5 (a:It):2<=a.one.length/\a.one.length<=32:=by
 have h1:=Pn.jq a.t;have h2:=Pn.jq a.v;have h3:=Pn.jq (sgn a.x);simp only[one,q_,d_];omega
theorem bq1 (l:List It):(bytes l).length<=10+32 *l.length:=by
 have h1:=Pn.jq l.length;have h2:∀l:List It,(l.flatMap one).length<=32 *l.length:=fun l=>by
  induction l with
  |nil=>simp
  |cons a l C=>have:=vq5 a;simp only[S_,d_,q_];omega
 have:=h2 l;simp only[bytes,d_];omega
def key (a:It):List UInt8:=UInt8.ofNat a.s.toNat::UInt8.ofNat a.k.toNat::[56,48,40,32,24,16,8,0].map fun k=>UInt8.ofNat (a.t / 2 ^ k)
end It
end
section
theorem cy1 {P:Program} {w:World} {ops:Array Oper} {rest:List Oper} {o:Oper} {a:Act} {Q:Exit->Act->World->Prop} (a1:o.guard=none) (s x:Operand) (t:TypeId)
  (ho:o.op=.call { callee:=.builtin .append,args:=#[s,x],argTypes:=#[t,t] })
  (base:Nat) (e:TypeId) (i:TypeInfo) (z:Value) (size bytes:Nat) (ht:P.underlying t=some (.slice e)) (hi:P.info? e=some i) (hz:i.zero=some z)
  (J:i.size=size) (a2:i.bytes=bytes) (a4:z.cells.size=size) (O:0 < size) (w0:World) (hb:Below base w0 w) (C:base<=w.heap.size) (v:Value) (n:Nat) (xs:List Value) (hs:a.eval s=v) (H:w.ownsRow base e size v n xs)
  (B:Nat) (A:Option Addr) (m c:Nat) (hm:0 < m) (news:List Value) (hx:a.eval x=.slice A m c) (hr:Row B w A m size news) (h1:∀u∈news,u.oneCell'=true)
  (N:Nat) (X:List Value) (hN:n+m=N) (hX:xs++news=X) (a5:N<=maxLen) (E:N *bytes<=140737488355328)
  (h:∀A' I w',w'.ownsRow base e size (.slice A' N I) N X->Below base w0 w'->w.grownBy w' v.ownBlock->N<=I->I<=maxLen->((Value.slice A' N I).ownBlock=v.ownBlock\/(Value.slice A' N I).ownBlock=some w.heap.size)->wpList P ops Q rest (a.put o.dst (.slice A' N I)) w'):wpList P ops Q (o::rest) a w:=by
 subst hN;subst hX;have U:0 < news.length:=by
  rw[hr.len];exact cz_ hm O
 obtain⟨a',rfl,_⟩:=hr.some_ U;obtain⟨v',w',Z,h3,h4,_,h6⟩:=run_append_own_at (P:=P) (ty:=o.type) w base t e i z size bytes ht hi hz J a2 a4 O v n xs H a' m c news hr.len hr.cells h1 a5 E C;obtain⟨A',I,rfl,h5,h7,_⟩:=gz h3;refine wpList_plain a1 fun _ hK=>?_;unfold Oper.wp execOp;simp only[ho,resolve,invoke,builtin,Sem.run_bind,Sem.run_pure,Result.andThen_ok,bI_,Z_,bO_,hs,hx,Z];exact hK _ _ (h A' I w' h3 (lx2 hb H h4 C) h4 h5 h7 h6)
def BoxO (w:World) (e:TypeId) (g:Nat) (xs:List Value):Prop:=w.heap[g]?=some (.cells xs.toArray e (0,0))
variable {w w':World} {e:TypeId} {g:Nat} {xs:List Value} {F:List Nat}
theorem BoxO.cell (h:BoxO w e g xs) (j:Nat):w.cell? ⟨g,j,none⟩=xs[j]?:=by rw[cell_of_row _ _ _ _ _ _ h];simp
theorem BoxO.c0 {w:World} {e:TypeId} {q:Nat} {a:Value} {l:List Value} (h:BoxO w e q (a::l)):w.cell? ⟨q,0,none⟩=some a:=h.cell 0
theorem BoxO.c1 {w:World} {e:TypeId} {q:Nat} {a b:Value} {l:List Value} (h:BoxO w e q (a::b::l)):w.cell? ⟨q,1,none⟩=some b:=h.cell 1
theorem BoxO.c2 {w:World} {e:TypeId} {q:Nat} {a b c:Value} {l:List Value} (h:BoxO w e q (a::b::c::l)):w.cell? ⟨q,2,none⟩=some c:=h.cell 2
theorem BoxO.c3 {w:World} {e:TypeId} {q:Nat} {a b c d:Value} {l:List Value} (h:BoxO w e q (a::b::c::d::l)):w.cell? ⟨q,3,none⟩=some d:=h.cell 3
theorem BoxO.c4 {w:World} {e:TypeId} {q:Nat} {a b c d f:Value} {l:List Value} (h:BoxO w e q (a::b::c::d::f::l)):w.cell? ⟨q,4,none⟩=some f:=h.cell 4
theorem BoxO.c5 {w:World} {e:TypeId} {q:Nat} {a b c d f i:Value} {l:List Value} (h:BoxO w e q (a::b::c::d::f::i::l)):w.cell? ⟨q,5,none⟩=some i:=h.cell 5
theorem BoxO.c6 {w:World} {e:TypeId} {q:Nat} {a b c d f i j:Value} {l:List Value} (h:BoxO w e q (a::b::c::d::f::i::j::l)):w.cell? ⟨q,6,none⟩=some j:=h.cell 6
theorem BoxO.c7 {w:World} {e:TypeId} {q:Nat} {a b c d f i j k:Value} {l:List Value} (h:BoxO w e q (a::b::c::d::f::i::j::k::l)):w.cell? ⟨q,7,none⟩=some k:=h.cell 7
theorem BoxO.c8 {w:World} {e:TypeId} {q:Nat} {a b c d f i j k m:Value} {l:List Value} (h:BoxO w e q (a::b::c::d::f::i::j::k::m::l)):w.cell? ⟨q,8,none⟩=some m:=h.cell 8
theorem BoxO.free (h:BoxO w e g xs) (j:Nat):w.frozen? ⟨g,j,none⟩=false:=frozen_of_row _ _ _ _ _ h
theorem BoxO.lt (h:BoxO w e g xs):g < w.heap.size:=(A_.1 h).1
theorem BoxO.chg (h:BoxO w e g xs) (c:Chg F w w') (C:g∉F):BoxO w' e g xs:=(c.block g h.lt C).trans h
theorem BoxO.below (h:BoxO w e g xs) (C:Below w.heap.size w w'):BoxO w' e g xs:=(C.block g h.lt).trans h
theorem BoxO.alloc (h:BoxO w e g xs) (o:Obj):BoxO (w.alloc o) e g xs:=h.below (b_ _ o)
theorem BoxO.new (w:World) (cs:Array Value) (e:TypeId):BoxO (w.alloc (.cells cs e)) e w.heap.size cs.toList:=heap_alloc_new _ _
theorem BoxO.store (h:BoxO w e g xs) (j:Nat) (u:Value):BoxO (w.setCell ⟨g,j,none⟩ u) e g (xs.set j u):=by
 have h1:w.ownsRow 0 e xs.length (.slice (some ⟨g,0,none⟩) 1 1) 1 xs:=⟨by simp,.inr ⟨g,1,xs.toArray,rfl,w_ _,h,y_ _,by decide,by simp,by simp⟩⟩;obtain⟨h2,_⟩:=h1.stored j u
 rcases h2.2 with ⟨C,_⟩|⟨Q,E,cur,C,_,H,_,_,hs,I⟩
 ·cases C
 ·injection C with C _ J
  injection C with C;injection C with C;subst C;subst J;unfold BoxO;have O:cur.toList=xs.set j u:=by
   rw[<-I,g_ (by simp at hs ⊢;omega)]
  rw[H,<-O]
theorem BoxO.drewN (h:BoxO w e g xs) (n:Nat):BoxO (w.drewN n) e g xs:=h
theorem BoxO.drew (h:BoxO w e g xs):BoxO w.drew e g xs:=h
theorem xw (w:World) (p:Addr) (v:Value):Chg [p.block] w (w.setCell p v):=(Chg.refl [p.block] w).setCell v (.inl s_)
end
section
theorem wz4 {α:Type} (f:α->List Value) (sz:Nat) (C:∀x,(f x).length=sz) (l:List α):(l.flatMap f).length=l.length *sz:=by
 induction l with
 |nil=>simp
 |cons h t E=>rw[S_,d_,E,C,q_,bu_];omega
theorem nx1 {α:Type} (f:α->List Value) (sz:Nat) (C:∀x,(f x).length=sz):∀(l:List α) (k j:Nat) (E:k < l.length),j < sz->(l.flatMap f)[k *sz+j]?=(f l[k])[j]?
 |h::t,0,j,_,hj=>by
  rw[S_,O_ (by rw[C];omega)];simp
 |h::t,k+1,j,E,hj=>by
  have e:(k+1)*sz+j - (f h).length=k *sz+j:=by rw[C,bu_];omega
  rw[S_,aj_ (by rw[C,bu_];omega),e,nx1 f sz C t k j (by simpa using E) hj];simp
theorem kx1 {B n sz:Nat} {w:World} {A:Option Addr} {vs:List Value} (h:Row B w A n sz vs) {i:Nat} {v:Value} (C:vs[i]?=some v):∃a,A=some a/\a.block < B/\w.cell? (a.add i)=some v:=by
 obtain⟨hi,e⟩:=J_.1 C;obtain⟨a,E,H,I⟩:=h.cell i hi;exact⟨a,E,H,by rw[I,e]⟩
theorem gy2 (a:Addr) (k:Nat) {j:Nat} (hj:0 < j):a.add (k+j)=⟨(a.add k).block,(a.add k).off+j,none⟩:=by
 rw[<-vj1,Addr.add,if_neg o_]
def It.cells (a:It):List Value:=[.int .i64 a.s,.int .i64 a.k,.int .u64 (a.t:Int),.int .u64 (a.v:Int),.int .i64 a.x]
def It.val (a:It):Value:=.agg #[.int .i64 a.s,.int .i64 a.k,.int .u64 (a.t:Int),.int .u64 (a.v:Int),.int .i64 a.x]
theorem It.gq (a:It):a.cells.length=5:=rfl
theorem ik {a b:Bool} (h:a=b):Ending.returned (.bool a)=.returned (.bool b):=by rw[h]
def itc (l:List It):List Value:=l.flatMap It.cells
theorem jk (l:List It):(itc l).length=l.length *5:=wz4 It.cells 5 It.gq l
theorem jj2 (l:List It) (k j:Nat) (C:k < l.length) (hj:j < 5):(itc l)[k *5+j]?=(l[k]).cells[j]?:=nx1 It.cells 5 It.gq l k j C hj
theorem lq (a b:List It):itc (a++b)=itc a++itc b:=by simp[itc]
theorem uj (l:List It):∀u∈itc l,u.oneCell'=true:=by
 intro u C;simp only[itc,ac_,It.cells,f_,aL_,or_false]at C;obtain⟨a,_,rfl|rfl|rfl|rfl|rfl⟩:=C<;>rfl
theorem dz1 (l:List It) (k:Nat):itc (l.take k)=(itc l).take (k *5):=by
 induction l generalizing k with
 |nil=>simp[itc]
 |cons a l C=>
  cases k with
  |zero=>simp[itc]
  |succ k=>
   have e:(k+1)*5=k *5+5:=o_
   have h:=C k;unfold itc at h ⊢;rw[cc_,S_,S_,h,e];rfl
theorem pq1 (l:List It) (k:Nat):itc (l.drop k)=(itc l).drop (k *5):=by
 induction l generalizing k with
 |nil=>simp[itc]
 |cons a l C=>
  cases k with
  |zero=>simp[itc]
  |succ k=>
   have e:(k+1)*5=k *5+5:=o_
   have h:=C k;unfold itc at h ⊢;rw[bM_,S_,h,e];rfl
structure ItAt (w:World) (a:Addr) (k:Nat) (x:It):Prop where
 c0:w.cell? (a.add (k *5))=some (.int .i64 x.s)
 c1:w.cell? ⟨(a.add (k *5)).block,(a.add (k *5)).off+1,none⟩=some (.int .i64 x.k)
 c2:w.cell? ⟨(a.add (k *5)).block,(a.add (k *5)).off+2,none⟩=some (.int .u64 (x.t:Int))
 c3:w.cell? ⟨(a.add (k *5)).block,(a.add (k *5)).off+3,none⟩=some (.int .u64 (x.v:Int))
 c4:w.cell? ⟨(a.add (k *5)).block,(a.add (k *5)).off+4,none⟩=some (.int .i64 x.x)
variable {B B' n:Nat} {w w':World} {A:Option Addr} {xs:List It}
theorem Row.qj (h:Row B w A n 5 (itc xs)):xs.length=n:=by
 have:=h.len;rw[jk]at this;omega
theorem Row.it (h:Row B w A n 5 (itc xs)) {k:Nat} (U:k < n):∃a,∃H:k < xs.length,A=some a/\a.block < B/\ItAt w a k xs[k]:=by
 have H:k < xs.length:=by have:=h.qj;omega
 have g:=fun j (hj:j < 5)=>jj2 xs k j H hj;obtain⟨a,I,J,c0⟩:=kx1 h (g 0 o_);have E:∀j v,0 < j->j < 5->(It.cells xs[k])[j]?=some v->w.cell? ⟨(a.add (k *5)).block,(a.add (k *5)).off+j,none⟩=some v:=fun j v O hj Q=>by
  obtain⟨Z,C,_,c⟩:=kx1 h ((g j hj).trans Q);rw[I]at C;injection C with C;subst C;rw[<-gy2 a (k *5) O];exact c
 exact⟨a,H,I,J,⟨c0,E 1 _ o_ o_ rfl,E 2 _ o_ o_ rfl,E 3 _ o_ o_ rfl,E 4 _ o_ o_ rfl⟩⟩
theorem ItAt.below {a:Addr} {k:Nat} {x:It} (h:ItAt w a k x) (E:a.block < B) (C:Below B w w'):ItAt w' a k x:=by
 have e:(a.add (k *5)).block < B:=by rw[add_block];exact E
 exact⟨(C.cell e).trans h.c0,(C.cell (p:=⟨(a.add (k *5)).block,(a.add (k *5)).off+1,none⟩) e).trans h.c1,(C.cell (p:=⟨(a.add (k *5)).block,(a.add (k *5)).off+2,none⟩) e).trans h.c2,(C.cell (p:=⟨(a.add (k *5)).block,(a.add (k *5)).off+3,none⟩) e).trans h.c3,(C.cell (p:=⟨(a.add (k *5)).block,(a.add (k *5)).off+4,none⟩) e).trans h.c4⟩
theorem Row.dw6 (h:Row B w A n 5 (itc xs)) {k m:Nat} (C:k<=m) (E:m<=n) {A':Option Addr} (H:k < m->A'=A.map (·.add (k *5))):Row B w A' (m - k) 5 (itc ((xs.drop k).take (m - k))):=by
 have:=h.cut C E H
 rwa [dz1,pq1]
end
end Go.Proofs.YtkdbagdiplpcfaaGreatDoor
